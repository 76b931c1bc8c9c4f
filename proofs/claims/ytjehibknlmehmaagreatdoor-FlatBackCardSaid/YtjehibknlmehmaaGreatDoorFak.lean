/- flat in plain Lean; its look at rows. No condition. -/
import Derived.Test.YtjehibknlmehmaaGreatDoorGfk
import Derived.Test.YtjehibknlmehmaaGreatDoorEak
set_option maxRecDepth 100000
namespace Go.Proofs.YtjehibknlmehmaaGreatDoor
section
open Go.Ab
structure fJ where
 name:ByteArray
 from_:Int
 size:Int
structure dH where
 name:ByteArray
 params:List ByteArray
 from_:Int
 J7:Int
 depth:Int
 ops:Int
 whole:Bool
structure Bk where
 qs:List fJ
 bs:List fJ
 ds:List dH
def dC(l:List fJ)(n:ByteArray):Option fJ:=l.find? fun r=>decide (r.name=n)
def gE(l:List dH)(n:ByteArray):Option dH:=l.find? fun d=>decide (d.name=n)
def aU(l:List fJ):Int:=(l.map (·.size)).sum
def gV(bk:Bk)(n:ByteArray):Bool:=(dC bk.qs n).isSome||(dC bk.bs n).isSome||(gE bk.ds n).isSome||decide (0<dE n)
def ml(k:ByteArray):Bool:=decide (k=aN)||decide (k=aG)||decide (k=cz)
def mQ(k:ByteArray):Bool:=decide (k=aS)||decide (k=bz)||decide (k=bw)||decide (k=aQ)||decide (k=bB)||ml k
def qN(k:ByteArray):Bool:=decide (k=aS)||decide (k=bz)||decide (k=aN)
def im(r:Row)(behind deep:Int)(own:Bool):Int:=
 if !mQ r.kind||(!ml r.kind&&r.rows != 0)||decide (r.rows<0)||decide (behind<r.rows) then 100
 else if 32<deep then 102
 else if decide (0<deep)&&qN r.kind then 100
 else if own&&!decide (r.kind=bw)&&!decide (r.kind=aG) then 100
 else 0
def ij(l:List fJ)(a:Arg):Int:=
 match dC l a.name with
 |none=>110
 |some g=>if a.index<0\/g.size<=a.index then 112 else 0
abbrev Er(α:Type):=Except Int α
def f_(bk:Bk)(l:List fJ)(lP:Int)(r:Row):Er (List fJ):=
 if gV bk r.name then .error 110 else if r.num<1 then .error 112 else if lP-aU l<r.num then .error 1 else .ok (l++[⟨r.name,aU l,r.num⟩])
def Cs{α:Type}[DecidableEq α](l:List α):Bool:=(List.range l.length).any fun i=>match l[i]? with |some a=>gB a (l.take i) |none=>false
theorem Cr{α:Type}[DecidableEq α]{l:List α}{i:Nat}{a:α}(hi:l[i]?=some a)(h:gB a (l.take i)=true):Cs l=true:=by
 unfold Cs
 rw[List.any_eq_true]
 exact⟨i,List.mem_range.2 (zM.1 hi).1,by rw[hi];exact h⟩
theorem Cq{α:Type}[DecidableEq α]{l:List α}(h:∀i a,l[i]?=some a->gB a (l.take i)=false):Cs l=false:=by
 unfold Cs
 rw[List.any_eq_false]
 intro i hi
 rw[zJ (List.mem_range.1 hi)]
 simp only[h i _ (zJ (List.mem_range.1 hi))]
 decide
def Gf(l:List ByteArray):Bool:=Cs l
def uJ(bk:Bk)(r:Row)(i:Int):Er Bk:=
 if gV bk r.name then .error 110 else if r.args.length=0 then .error 111
 else if r.args.any (fun a=>a.index != -1) then .error 112
 else if Gf (r.args.map (·.name)) then .error 113
 else .ok { bk with ds:=bk.ds++[⟨r.name,r.args.map (·.name),i+1,i+1+r.rows,1,0,false⟩] }
def fG(bk:Bk)(own:Option dH)(a:Arg):Int:=
 match own with
 |none=>ij bk.qs a
 |some d=>if a.index≠-1 then 112 else if gB a.name d.params then 0 else 110
def ft(f:Arg->Int):List Arg->Int
 |[]=>0
 |a::l=>if f a≠0 then f a else ft f l
def fZ(a:Arg):ByteArray×Int:=(a.name,a.index)
def w_(l:List Arg):Bool:=Cs (l.map fZ)
def rM(bk:Bk)(own:Option Nat)(n:Int):Bk:=match own with |some k=>{ bk with ds:=bk.ds.modify k fun d=>{ d with depth:=max d.depth n } } |none=>bk
def jY(bk:Bk)(own:Option Nat):Option dH:=own.bind fun k=>bk.ds[k]?
def l7(bk:Bk)(n:ByteArray):Int×Int:=
 match gE bk.ds n with
 |some d=>if d.whole then(d.params.length,d.depth) else(dE n,0)
 |none=>(dE n,0)
def pH(bk:Bk)(own:Option Nat)(n:ByteArray):Bool:=match jY bk own with |some d=>decide (n=d.name) |none=>false
def lG(bk:Bk)(own:Option Nat)(r:Row):Er Bk:=
 if pH bk own r.name then .error 114
 else if (l7 bk r.name).1=0 then .error 80
 else if (r.args.length:Int)≠(l7 bk r.name).1 then .error 111
 else if ft (fG bk (jY bk own)) r.args≠0 then .error (ft (fG bk (jY bk own)) r.args)
 else if w_ r.args then .error 113
 else if own.isSome=true/\32<(l7 bk r.name).2+1 then .error 102
 else .ok (rM bk own ((l7 bk r.name).2+1))
def ot(e:Int)(bk:Bk):Er Bk:=if e≠0 then .error e else .ok bk
def sx(bk:Bk)(r:Row):Er Bk:=
 match dC bk.bs r.name with
 |none=>.error 110
 |some c=>if r.num<0\/(c.size<63/\2^c.size.toNat<=r.num) then .error 112 else .ok bk
def na(bk:Bk)(l:List Arg):Er Bk:=match l with |[a,b]=>if ij bk.qs a≠0 then .error (ij bk.qs a) else ot (ij bk.bs b) bk |_=>.error 111
def re(bk:Bk)(l:List Arg):Er Bk:=match l with |[a]=>ot (ij bk.qs a) bk |_=>.error 111
def fQ(bk:Bk)(own:Option Nat)(i:Int)(r:Row):Er Bk:=
 if r.kind=aS then(f_ bk bk.qs 64 r).map fun l=>{ bk with qs:=l }
 else if r.kind=bz then(f_ bk bk.bs 64 r).map fun l=>{ bk with bs:=l }
 else if r.kind=aN then uJ bk r i
 else if r.kind=aG then(if r.num<0 then .error 112 else .ok bk)
 else if r.kind=cz then sx bk r
 else if r.kind=bw then lG bk own r
 else if r.kind=aQ then na bk r.args
 else if r.kind=bB then re bk r.args
 else .ok bk
def countP(ds:List dH)(rows:List Row)(n:Int):Int:=
 match rows with
 |[]=>n
 |r::rest=>
  let k:Int:=if r.kind=aG then(let c:=countP ds (rest.take r.rows.toNat) 0;if 0<c then min r.num 4097*c else c) else match gE ds r.name with |some d=>d.ops |none=>1
  countP ds (rest.drop r.rows.toNat) (min (n+k) 4097)
termination_by rows.length
decreasing_by all_goals (simp only[yA,List.length_drop,List.length_cons];omega)
def lJ(ds:List dH)(k:Nat)(n:Int):List dH:=ds.modify k fun d=>{ d with whole:=true,ops:=n }
def dN(deep:Nat)(own:Option Nat)(i:Nat)(rows:List Row)(bk:Bk):Except (Int×Int) Bk:=
 match rows with
 |[]=>.ok bk
 |r::rest=>
  if im r rest.length deep own.isSome≠0 then .error (r.place,im r rest.length deep own.isSome)
  else match fQ bk own i r with
   |.error e=>.error (r.place,e)
   |.ok qA=>
    let inner:=if r.kind=aN then some bk.ds.length else own
    match dN (deep+1) inner (i+1) (rest.take r.rows.toNat) qA with
    |.error e=>.error e
    |.ok ig=>
     let nJ:=if r.kind=aN then{ ig with ds:=lJ ig.ds bk.ds.length (countP ig.ds (rest.take r.rows.toNat) 0) } else ig
     dN deep own (i+1+r.rows.toNat) (rest.drop r.rows.toNat) nJ
termination_by rows.length
decreasing_by all_goals (simp only[yA,List.length_drop,List.length_cons];omega)
end
section
open Go.Ab
attribute [-simp] aH az
def TP(t:TypeId):Bool:=t==94||t==95||t==97||t==127
def uE(r:fJ):AV:=.agg [I r.from_,I r.size]
def rf(l:List fJ):List (ByteArray×AV):=l.map fun r=>(r.name,uE r)
def kT(l:List dH)(ids:List Nat):List (ByteArray×AV):=(l.zip ids).map fun x=>(x.1.name,.ptr x.2 0)
abbrev B9(xr:AV)(qm bm gm:Nat)(xp:AV)(nq nb:Int)(xo:AV)(pl:Int):AO:=aI [xr,.mp qm,.mp bm,.mp gm,xp,I nq,I nb,xo,I pl] 9 97
abbrev wx(xp:AV)(d:dH):AO:=aI [Sb d.name,xp,I d.from_,I d.J7,I d.depth,I d.ops,B d.whole] 7 127
def sS(h:AH)(id:Nat)(d:dH):Prop:=∃xp,h.obj id=some (wx xp d)/\bC nr 1 9 h xp d.params
structure PM (h:AH) (bk:Bk) (ids:List Nat) (qm bm gm:Nat):Prop where
 q:h.obj qm=some (lc Sb 94 (rf bk.qs))
 b:h.obj bm=some (lc Sb 94 (rf bk.bs))
 g:h.obj gm=some (lc Sb 95 (kT bk.ds ids))
 len:ids.length=bk.ds.length
 d:∀(k:Nat)(d:dH)(id:Nat),bk.ds[k]?=some d->ids[k]?=some id->sS h id d
 nd:ids.Nodup
 qb:qm≠bm
structure PA (n0:Nat) (h:AH) (p:Nat) (xr:AV) (bk:Bk) (ids:List Nat) (qm bm gm:Nat) (pl:Int):Prop where
 n:n0<=p/\n0<=qm/\n0<=bm/\n0<=gm/\∀id∈ids,n0<=id
 p:h.obj p=some (B9 xr qm bm gm aV (aU bk.qs) (aU bk.bs) aV pl)
 m:PM h bk ids qm bm gm
theorem sS.fr{h h':AH}{id:Nat}{d:dH}(a:sS h id d){S:Nat->Prop}(hf:Fr h h' S)(hs:∀i o,h.obj i=some o->o.ty=127\/o.ty=9->¬S i):sS h' id d:=by
 obtain⟨xp,h1,h2⟩:=a
 refine⟨xp,hf.obj h1 (hs _ _ h1 (.inl rfl)),?_⟩
 rcases h2 with h2 |⟨i,h3,h4⟩
 ·exact .inl h2
 ·exact .inr ⟨i,h3,hf.obj h4 (hs _ _ h4 (.inr rfl))⟩
theorem PM.be{h h':AH}{bk:Bk}{ids:List Nat}{qm bm gm:Nat}(a:PM h bk ids qm bm gm)(hf:Fr h h' fun _=>False):PM h' bk ids qm bm gm:=
 ⟨hf.bI a.q,hf.bI a.b,hf.bI a.g,a.len,fun k d id h1 h2=>(a.d k d id h1 h2).fr hf fun _ _ _ _ h=>h,a.nd,a.qb⟩
theorem PA.be{n0:Nat}{h h':AH}{p:Nat}{xr:AV}{bk:Bk}{ids:List Nat}{qm bm gm:Nat}{pl:Int}(a:PA n0 h p xr bk ids qm bm gm pl)(hf:Fr h h' fun _=>False):PA n0 h' p xr bk ids qm bm gm pl:=
 ⟨a.n,hf.bI a.p,a.m.be hf⟩
theorem kS{n:ByteArray}{l:List fJ}:ee n (rf l)=(dC l n).map uE:=Ak
theorem nl{n:ByteArray}:∀{l:List dH}{ids:List Nat},ids.length=l.length->(ee n (kT l ids)=none/\gE l n=none)\/∃(k:Nat)(d:dH)(id:Nat),ee n (kT l ids)=some (.ptr id 0)/\gE l n=some d/\l[k]?=some d/\ids[k]?=some id
 |[],ids,_=>.inl ⟨by simp[kT,ee],rfl⟩
 |d::l,[],h=>by simp at h
 |d::l,id::ids,h=>by
  have e:kT (d::l) (id::ids)=(d.name,.ptr id 0)::kT l ids:=rfl
  rw[e]
  unfold gE
  simp only[ee,List.find?_cons]
  by_cases hn:n=d.name
  ·rw[zX hn,zL hn.symm]
   exact .inr ⟨0,d,id,rfl,rfl,rfl,rfl⟩
  ·rw[zW hn,zK (fun h=>hn h.symm)]
   rcases nl (n:=n) (l:=l) (ids:=ids) (by simpa using h) with⟨h1,h2⟩ |⟨k,d',pV,h1,h2,h3,h4⟩
   ·exact .inl ⟨h1,h2⟩
   ·exact .inr ⟨k+1,d',pV,h1,h2,by simpa using h3,by simpa using h4⟩
theorem z93:nK Pg 56=some (.agg [I 0,I 0]):=by kernel_rfl
theorem z87:nK Pg 122=some (.sc (.pointer none)):=by kernel_rfl
section
variable {h:AH} {M:Nat->Prop} {R:AE->AH->Prop}
theorem DW{k:ByteArray}(hR:R (.ret (B (ml k))) h):aB Pg 89 [Sb k] h M R:=by
 apply Z8.aO
 unfold ml at hR
 by_cases k1:k=aN
 ·subst k1;simpa[aN] using hR
 ·by_cases k2:k=aG
  ·subst k2;simpa[aN,aG] using hR
  ·by_cases k3:k=cz
   ·subst k3;simpa[aN,aG,cz] using hR
   ·simp[k1,k2,k3]at hR
    unfold aN at k1;unfold aG at k2;unfold cz at k3
    simpa[k1,k2,k3] using hR
theorem NP{k:ByteArray}(hR:R (.ret (B (mQ k))) h):aB Pg 88 [Sb k] h M R:=by
 apply Rd.aO
 unfold mQ at hR
 by_cases k1:k=aS
 ·subst k1;simpa[aS] using hR
 by_cases k2:k=bz
 ·subst k2;simpa[aS,bz] using hR
 by_cases k3:k=bw
 ·subst k3;simpa[aS,bz,bw] using hR
 by_cases k4:k=aQ
 ·subst k4;simpa[aS,bz,bw,aQ] using hR
 by_cases k5:k=bB
 ·subst k5;simpa[aS,bz,bw,aQ,bB] using hR
 simp[k1,k2,k3,k4,k5]at hR
 unfold aS at k1;unfold bz at k2;unfold bw at k3;unfold aQ at k4;unfold bB at k5
 simp[-Rd.n1,k1,k2,k3,k4,k5]
 unfold Rd.n1
 refine⟨fun _=>False,fun _ h=>h.elim,DW ?_⟩
 simpa using hR
end
section
variable {h:AH} {M:Nat->Prop} {R:AE->AH->Prop} {n0 p:Nat} {xr:AV} {bk:Bk} {ids:List Nat} {qm bm gm:Nat} {pl:Int}
theorem zg{cs:List AV}{n:ByteArray}(hp:h.obj p=some (aI cs 9 97))(c1:cs[1]?=some (.mp qm))(c2:cs[2]?=some (.mp bm))(c3:cs[3]?=some (.mp gm))(hm:PM h bk ids qm bm gm)
  (hR:∀h',Fr h h' (fun _=>False)->R (.ret (B (gV bk n))) h'):aB Pg 113 [.ptr p 0,Sb n] h M R:=by
 apply pE.aO
 unfold pE.ba pE.bc
 simp only[aL,aj,aF,hp,aA,zG,c1,ab]
 refine gY (enc:=Sb) jr z93 hm.q fun _=>?_
 rw[kS]
 have hex:∀(o:Option fJ),∃a b,fL true (.agg [I 0,I 0]) (o.map uE)=.cP [.agg [I a,I b],B o.isSome]:=fun o=>by
  cases o with
  |none=>exact⟨_,_,rfl⟩
  |some r=>exact⟨_,_,rfl⟩
 obtain⟨a1,b1,e1⟩:=hex (dC bk.qs n)
 rw[e1]
 simp only[c9,zA,zB,ab]
 refine fV (cs:=[I a1,I b1]) rfl rfl rfl rfl (fun id hid=>.inr hid) fun v1 h1 f1 _ _=>?_
 unfold pE.aZ
 simp only[aL,aj,aF,f1.bI hp,aA,zG,c2,ab]
 have Vn:=hm.be f1
 refine gY (enc:=Sb) jr z93 Vn.b fun _=>?_
 rw[kS]
 obtain⟨a2,b2,e2⟩:=hex (dC bk.bs n)
 rw[e2]
 simp only[c9,zA,zB,ab]
 refine fV (cs:=[I a2,I b2]) rfl rfl rfl rfl (fun id hid=>.inr (zR f1.next hid)) fun v2 h2 f2 _ _=>?_
 have bY:=f1.bQ f2
 unfold pE.n9
 simp only[aL,aj,aF,bY.bI hp,aA,zG,c3,ab]
 have hm2:=hm.be bY
 refine gY (enc:=Sb) jr z87 hm2.g fun _=>?_
 have e3:∃z,fL true (.sc (.pointer none)) (ee n (kT bk.ds ids))=.cP [z,B (gE bk.ds n).isSome]:=by
  rcases nl (n:=n) hm.len with⟨h1,h2⟩ |⟨k,d,id,h1,h2,_⟩
  ·rw[h1,h2];exact⟨_,rfl⟩
  ·rw[h1,h2];exact⟨_,rfl⟩
 obtain⟨z,e3⟩:=e3
 rw[e3]
 simp only[c9,zA,zB,ab]
 unfold gV at hR
 generalize (dC bk.qs n).isSome=t1 at *
 generalize (dC bk.bs n).isSome=t2 at *
 generalize (gE bk.ds n).isSome=t3 at *
 have fin:∀b,b=(t1||t2||t3)->pE.n3 (fun id=>M id\/h.next<=id) (aK Pg [.tmp 4] R) (aK Pg [.tmp 4] R) (fun _ _ _=>False) (fun v h=>R (.b6 v) h) (Sb n) (B b) h2:=fun b hb=>by
  rw[<-hb]at hR
  cases b with
  |true=>simpa[pE.n3,pE.n2] using hR h2 bY
  |false=>
   simp only[pE.n3,dW,zT,zE,zD,zC,zI]
   refine⟨fun _=>False,fun _ h=>h.elim,Ar fun h3 f3=>?_⟩
   have:=hR h3 (bY.bQ f3)
   simpa[pE.n2] using this
 have fin:=fin _ rfl
 revert fin
 cases t1<;>cases t2<;>cases t3<;>intro fin<;>simp[-pE.n3]at fin<;>simp[-pE.n3]<;>exact fin
end
end
section
open Go.Ab
attribute [-simp] aH az
theorem qD(l:List fJ)(r:fJ):aU (l++[r])=aU l+r.size:=by simp[aU]
theorem EP(l:List fJ)(r:fJ):rf (l++[r])=rf l++[(r.name,uE r)]:=by simp[rf]
theorem pq{y:Row×AV}{l:List Arg}{f:Arg->List AV}{sz:Nat}{ty:TypeId}{h:AH}(ha:cb f sz ty h y.2 l):(ay y).all cF=true:=by
 show(true&&(true&&(cF y.2&&(true&&(true&&(true&&true))))))=true
 rw[ha.one.1];rfl
section
variable {h:AH} {M:Nat->Prop} {R:AE->AH->Prop} {n0 p:Nat} {xr:AV} {bk:Bk} {ids:List Nat} {qm bm gm:Nat} {pl:Int}
theorem Ej{m:Nat}{l:List fJ}{a:Arg}(hm:h.obj m=some (lc Sb 94 (rf l)))(hR:∀h',Fr h h' (fun _=>False)->R (.ret (I (ij l a))) h'):aB Pg 93 [.mp m,.agg a.enc] h M R:=by
 apply GS.aO
 unfold GS.bc
 refine dF (cs:=a.enc) (Arg.h_ a) fun va h1 f1 _ oa=>?_
 unfold GS.aZ
 simp only[aj,aF,oa,aA,zG,Arg.enc,zA,ab]
 refine gY (enc:=Sb) jr z93 (f1.bI hm) fun _=>?_
 rw[kS]
 unfold ij at hR
 cases hr:dC l a.name with
 |none=>
  rw[hr]at hR
  simp only[Option.map_none,fL,zV,c9,zA,zB,ab]
  refine fV (cs:=[I 0,I 0]) rfl rfl rfl rfl (fun id hid=>.inr (zR f1.next hid)) fun v1 h2 f2 _ _=>?_
  have:=hR h2 (f1.bQ f2)
  simpa[GS.n9,GS.n8,GS.n7] using this
 |some g=>
  rw[hr]at hR
  simp only[yB,fL,zV,uE,c9,zA,zB,ab]
  refine fV (cs:=[I g.from_,I g.size]) rfl rfl rfl rfl (fun id hid=>.inr (zR f1.next hid)) fun v1 h2 f2 _ ov=>?_
  have:=hR h2 (f1.bQ f2)
  have HB:=f2.bI oa
  by_cases k1:a.index<0
  ·simp[k1]at this
   simpa[HB,ov,Arg.enc,k1] using this
  ·by_cases k2:g.size<=a.index
   ·simp[k1,k2]at this
    simpa[HB,ov,Arg.enc,k1,k2] using this
   ·simp[k1,k2]at this
    simpa[HB,ov,Arg.enc,k1,k2] using this
theorem Ml{lP:Int}{y:Row×AV}(pa:PA n0 h p xr bk ids qm bm gm pl)(ha:cb Arg.enc 2 67 h y.2 y.1.args)(FP:lP=64)(ht:0<=aU bk.qs/\aU bk.qs<=64)(hM:∀id,TW TP n0 h id->M id)
  (he:∀e h',f_ bk bk.qs lP y.1=.error e->Fr h h' (fun _=>False)->R (.ret (I e)) h')
  (hk:∀l' h',f_ bk bk.qs lP y.1=.ok l'->PA n0 h' p xr { bk with qs:=l' } ids qm bm gm pl->Fr h h' (TW TP n0 h)->R (.ret (I 0)) h') :
  aB Pg 90 [.ptr p 0,.agg (ay y),.mp qm,.ptr p 5,I lP] h M R:=by
 apply iG.aO
 unfold iG.br
 refine dF (pq ha) fun vr h1 f1 gN cW=>?_
 unfold iG.ba
 have kY:=pa.be f1
 simp only[aj,aF,cW,aA,zG,ay,zA,zB,ab]
 refine⟨fun _=>False,fun _ h=>h.elim,zg kY.p rfl rfl rfl kY.m fun h2 f2=>?_⟩
 have bY:=f1.bQ f2
 have dO:=kY.be f2
 have lM:=f2.bI cW
 unfold f_ at he hk
 cases iz:gV bk y.1.name with
 |true=>
  have:=he 110 h2 (by rw[iz];rfl) bY
  simpa[iG.bc,iG.n4] using this
 |false=>
  rw[iz]at he hk
  simp only[zE,if_false]at he hk
  simp only[iG.bc,ap,zE,zC,zD,zH]
  by_cases k1:y.1.num<1
  ·have:=he 112 h2 (by rw[zX k1]) bY
   simpa[iG.aZ,iG.n9,iG.n5,lM,ay,k1] using this
  ·rw[zW k1]at he hk
   have w1:IntKind.i64.wrap (lP-aU bk.qs)=lP-aU bk.qs:=aX (by omega) (by omega)
   simp only[iG.aZ,aj,aF,lM,aA,zG,ay,zA,zB,ab,bu,zK k1,iG.n9,ap,zE,zC,zD,zH,iG.n8,aL,dO.p,kO,w1,gA,gt_iff_lt]
   by_cases k2:lP-aU bk.qs<y.1.num
   ·have:=he 1 h2 (by rw[zX k2]) bY
    simpa[iG.n7,iG.n6,k2] using this
   ·rw[zW k2]at he hk
    simp only[zK k2,iG.n7,ap,zE,zC,zD,zH]
    unfold iG.n3
    simp only[aj,aF,lM,aA,zG,ay,zA,zB,ab,aL,dO.p]
    refine⟨_,rfl,?_⟩
    have uB:ee y.1.name (rf bk.qs)=none:=by
     rw[kS]
     unfold gV at iz
     simp only[Bool.or_eq_false_iff]at iz
     have:=iz.1.1.1
     cases hx:dC bk.qs y.1.name with
     |none=>rfl
     |some _=>rw[hx]at this;cases this
    have LN:∀id,TW TP n0 h id->(M id\/h.next<=id):=fun id hid=>.inl (hM id hid)
    have m0:h.obj qm=some (lc Sb 94 (rf bk.qs)):=pa.m.q
    have p0:h.obj p=some (B9 xr qm bm gm aV (aU bk.qs) (aU bk.bs) aV pl):=pa.p
    refine ua (enc:=Sb) jr (LN _ ⟨pa.n.2.1,_,m0,rfl,rfl⟩) dO.m.q uB fun h3 E3 f3=>?_
    have KY:p≠qm:=bG p0 m0 (show(97:Nat)≠94 by decide)
    have p3:h3.obj p=some (B9 xr qm bm gm aV (aU bk.qs) (aU bk.bs) aV pl):=f3.obj dO.p KY
    have oH:h3.obj vr=some (aI (ay y) 6 46):=f3.obj lM (bG lM dO.m.q (show(46:Nat)≠94 by decide))
    have w2:IntKind.i64.wrap (aU bk.qs+y.1.num)=aU bk.qs+y.1.num:=aX (by omega) (by omega)
    unfold iG.n2
    simp only[aL,aj,aF,p3,oH,aA,zG,ay,zA,zB,ab,bg,w2,az,eY,cn]
    refine⟨⟨LN _ ⟨pa.n.1,_,p0,rfl,rfl⟩,rfl,rfl,by simp⟩,?_⟩
    have f4:Fr h3 (h3.put p 5 [I (aU bk.qs+y.1.num)]) (·=p):=Fr.refl.put (.inl rfl)
    have p4:=gW (off:=5) (cs:=[I (aU bk.qs+y.1.num)]) p3
    generalize h3.put p 5 [I (aU bk.qs+y.1.num)]=h4 at *
    have fz:Fr h h4 (TW TP n0 h):=TW.trans (TW.trans (TW.bp bY) (TW.mO f3 pa.n.2.1 dO.m.q rfl rfl)) (TW.mO f4 pa.n.1 p3 rfl rfl)
    refine hk _ h4 rfl ⟨pa.n,?_,?_⟩ fz
    ·rw[p4,qD];rfl
    ·have dr:∀{i:Nat}{o:AO},h2.obj i=some o->i≠qm->i≠p->h4.obj i=some o:=fun ho h1 h2=>f4.obj (f3.obj ho h1) h2
     refine⟨by rw[EP];exact f4.obj E3 (Ne.symm KY),dr dO.m.b (Ne.symm dO.m.qb) (bG dO.m.b dO.p (show(94:Nat)≠97 by decide)),dr dO.m.g (bG dO.m.g dO.m.q (show(95:Nat)≠94 by decide)) (bG dO.m.g dO.p (show(95:Nat)≠97 by decide)),dO.m.len,fun k d id h5 h6=>?_,dO.m.nd,dO.m.qb⟩
     obtain⟨xp,h7,h8⟩:=dO.m.d k d id h5 h6
     refine⟨xp,dr h7 (bG h7 dO.m.q (show(127:Nat)≠94 by decide)) (bG h7 dO.p (show(127:Nat)≠97 by decide)),?_⟩
     rcases h8 with h8 |⟨i,h9,lq⟩
     ·exact .inl h8
     ·exact .inr ⟨i,h9,dr lq (bG lq dO.m.q (show(9:Nat)≠94 by decide)) (bG lq dO.p (show(9:Nat)≠97 by decide))⟩
theorem Mm{lP:Int}{y:Row×AV}(pa:PA n0 h p xr bk ids qm bm gm pl)(ha:cb Arg.enc 2 67 h y.2 y.1.args)(FP:lP=64)(ht:0<=aU bk.bs/\aU bk.bs<=64)(hM:∀id,TW TP n0 h id->M id)
  (he:∀e h',f_ bk bk.bs lP y.1=.error e->Fr h h' (fun _=>False)->R (.ret (I e)) h')
  (hk:∀l' h',f_ bk bk.bs lP y.1=.ok l'->PA n0 h' p xr { bk with bs:=l' } ids qm bm gm pl->Fr h h' (TW TP n0 h)->R (.ret (I 0)) h') :
  aB Pg 90 [.ptr p 0,.agg (ay y),.mp bm,.ptr p 6,I lP] h M R:=by
 apply iG.aO
 unfold iG.br
 refine dF (pq ha) fun vr h1 f1 gN cW=>?_
 unfold iG.ba
 have kY:=pa.be f1
 simp only[aj,aF,cW,aA,zG,ay,zA,zB,ab]
 refine⟨fun _=>False,fun _ h=>h.elim,zg kY.p rfl rfl rfl kY.m fun h2 f2=>?_⟩
 have bY:=f1.bQ f2
 have dO:=kY.be f2
 have lM:=f2.bI cW
 unfold f_ at he hk
 cases iz:gV bk y.1.name with
 |true=>
  have:=he 110 h2 (by rw[iz];rfl) bY
  simpa[iG.bc,iG.n4] using this
 |false=>
  rw[iz]at he hk
  simp only[zE,if_false]at he hk
  simp only[iG.bc,ap,zE,zC,zD,zH]
  by_cases k1:y.1.num<1
  ·have:=he 112 h2 (by rw[zX k1]) bY
   simpa[iG.aZ,iG.n9,iG.n5,lM,ay,k1] using this
  ·rw[zW k1]at he hk
   have w1:IntKind.i64.wrap (lP-aU bk.bs)=lP-aU bk.bs:=aX (by omega) (by omega)
   simp only[iG.aZ,aj,aF,lM,aA,zG,ay,zA,zB,ab,bu,zK k1,iG.n9,ap,zE,zC,zD,zH,iG.n8,aL,dO.p,kO,w1,gA,gt_iff_lt]
   by_cases k2:lP-aU bk.bs<y.1.num
   ·have:=he 1 h2 (by rw[zX k2]) bY
    simpa[iG.n7,iG.n6,k2] using this
   ·rw[zW k2]at he hk
    simp only[zK k2,iG.n7,ap,zE,zC,zD,zH]
    unfold iG.n3
    simp only[aj,aF,lM,aA,zG,ay,zA,zB,ab,aL,dO.p]
    refine⟨_,rfl,?_⟩
    have uB:ee y.1.name (rf bk.bs)=none:=by
     rw[kS]
     unfold gV at iz
     simp only[Bool.or_eq_false_iff]at iz
     have:=iz.1.1.2
     cases hx:dC bk.bs y.1.name with
     |none=>rfl
     |some _=>rw[hx]at this;cases this
    have LN:∀id,TW TP n0 h id->(M id\/h.next<=id):=fun id hid=>.inl (hM id hid)
    have m0:h.obj bm=some (lc Sb 94 (rf bk.bs)):=pa.m.b
    have p0:h.obj p=some (B9 xr qm bm gm aV (aU bk.qs) (aU bk.bs) aV pl):=pa.p
    refine ua (enc:=Sb) jr (LN _ ⟨pa.n.2.2.1,_,m0,rfl,rfl⟩) dO.m.b uB fun h3 E3 f3=>?_
    have KY:p≠bm:=bG p0 m0 (show(97:Nat)≠94 by decide)
    have p3:h3.obj p=some (B9 xr qm bm gm aV (aU bk.qs) (aU bk.bs) aV pl):=f3.obj dO.p KY
    have oH:h3.obj vr=some (aI (ay y) 6 46):=f3.obj lM (bG lM dO.m.b (show(46:Nat)≠94 by decide))
    have w2:IntKind.i64.wrap (aU bk.bs+y.1.num)=aU bk.bs+y.1.num:=aX (by omega) (by omega)
    unfold iG.n2
    simp only[aL,aj,aF,p3,oH,aA,zG,ay,zA,zB,ab,bg,w2,az,eY,cn]
    refine⟨⟨LN _ ⟨pa.n.1,_,p0,rfl,rfl⟩,rfl,rfl,by simp⟩,?_⟩
    have f4:Fr h3 (h3.put p 6 [I (aU bk.bs+y.1.num)]) (·=p):=Fr.refl.put (.inl rfl)
    have p4:=gW (off:=6) (cs:=[I (aU bk.bs+y.1.num)]) p3
    generalize h3.put p 6 [I (aU bk.bs+y.1.num)]=h4 at *
    have fz:Fr h h4 (TW TP n0 h):=TW.trans (TW.trans (TW.bp bY) (TW.mO f3 pa.n.2.2.1 dO.m.b rfl rfl)) (TW.mO f4 pa.n.1 p3 rfl rfl)
    refine hk _ h4 rfl ⟨pa.n,?_,?_⟩ fz
    ·rw[p4,qD];rfl
    ·have dr:∀{i:Nat}{o:AO},h2.obj i=some o->i≠bm->i≠p->h4.obj i=some o:=fun ho h1 h2=>f4.obj (f3.obj ho h1) h2
     refine⟨dr dO.m.q dO.m.qb (bG dO.m.q dO.p (show(94:Nat)≠97 by decide)),by rw[EP];exact f4.obj E3 (Ne.symm KY),dr dO.m.g (bG dO.m.g dO.m.b (show(95:Nat)≠94 by decide)) (bG dO.m.g dO.p (show(95:Nat)≠97 by decide)),dO.m.len,fun k d id h5 h6=>?_,dO.m.nd,dO.m.qb⟩
     obtain⟨xp,h7,h8⟩:=dO.m.d k d id h5 h6
     refine⟨xp,dr h7 (bG h7 dO.m.b (show(127:Nat)≠94 by decide)) (bG h7 dO.p (show(127:Nat)≠97 by decide)),?_⟩
     rcases h8 with h8 |⟨i,h9,lq⟩
     ·exact .inl h8
     ·exact .inr ⟨i,h9,dr lq (bG lq dO.m.b (show(9:Nat)≠94 by decide)) (bG lq dO.p (show(9:Nat)≠97 by decide))⟩
end
end
section
open Go.Ab
attribute [-simp] aH az
theorem lb{κ:Type}[DecidableEq κ]{n:κ}:∀{l:List (κ×AV)},(ee n l).isSome=gB n (l.map (·.1))
 |[]=>rfl
 |(k,v)::l=>by
  have ih:=lb (n:=n) (l:=l)
  unfold gB at *
  simp only[ee,List.map_cons,jc]
  by_cases e:n=k
  ·rw[zX e,zX e];rfl
  ·rw[zW e,zW e,ih]
   have sh:∀(l:List κ)(i j:Nat),(jc n l i).isSome=(jc n l j).isSome:=fun l=>by
    induction l with
    |nil=>intro i j;rfl
    |cons a l ih=>
     intro i j
     simp only[jc]
     split
     ·rfl
     ·exact ih _ _
   exact sh _ _ _
theorem C5{z:AV}(o:Option AV):∃a,fL true z o=.cP [a,B o.isSome]:=by
 cases o with
 |none=>exact⟨_,rfl⟩
 |some v=>exact⟨_,rfl⟩
theorem OF(s:ByteArray):(nr s).all cF=true:=rfl
theorem WV{α:Type}{f:α->Bool}{l:List α}{i:Nat}{a:α}(hi:l[i]?=some a)(h:f a=true):l.any f=true:=List.any_eq_true.2 ⟨a,zP hi,h⟩
theorem WU{α:Type}{f:α->Bool}{l:List α}(h:∀(i:Nat)(a:α),l[i]?=some a->f a=false):l.any f=false:=by
 rw[List.any_eq_false]
 intro x hx
 obtain⟨i,hi,rfl⟩:=List.mem_iff_getElem.1 hx
 rw[h i _ (zJ hi)];decide
theorem z3:nK Pg 3=some (I 0):=by kernel_rfl
section
variable {W:Nat->Prop} {QR QN:VK} {QE:Nat->VK} {QP:AV->AH->Prop} {h:AH} {x0:AV} {vr dd:Nat} {y:Row×AV}
theorem MG(hW:∀id,h.next<=id->W id)(cW:h.obj vr=some (aI (ay y) 6 46))(ha:cb Arg.enc 2 67 h y.2 y.1.args)(hl:y.1.args.length<=100000000)
  (he:y.1.args.any (fun a=>a.index != -1)=true->∀h',Fr h h' (fun _=>False)->QR [I 112] h')
  (hk:y.1.args.any (fun a=>a.index != -1)=false->∀h',Fr h h' (fun _=>False)->fl.bM W QR QN QE QP x0 (.ptr vr 0) (.ptr dd 0) h'):fl.cN W QR QN QE QP x0 (.ptr vr 0) (.ptr dd 0) h:=by
 unfold fl.cN
 simp only[aj,aF,cW,aA,zG,ay,zA,zB,ab,ha.len.1,ha.len.2,zH]
 unfold fl.cL
 refine cJ (ι:=Nat) (fun i v h'=>v=[x0,.ptr vr 0,.ptr dd 0,y.2,I y.1.args.length,I i]/\i<=y.1.args.length/\Fr h h' (fun _=>False)/\∀j a,j<i->y.1.args[j]?=some a->(a.index != -1)=false) (fun i=>y.1.args.length-i) 0 ⟨rfl,by omega,Fr.refl,fun j a h=>by omega⟩ ?_
 rintro K i v h' ⟨rfl,hi,hf,hb⟩ hK
 simp only[fl.ju,zN,zO]
 by_cases aJ:i<y.1.args.length
 ·have dZ:(i:Int)<y.1.args.length:=by omega
  have g1:y.1.args[i]?=some y.1.args[i]:=zJ aJ
  have w1:IntKind.i64.wrap ((i:Int)+1)=((i+1:Nat):Int):=by rw[aX (by omega) (by omega)];simp
  generalize y.1.args[i]=g at *
  simp only[fl.cq,bu,zL dZ,fl.cl,ap,zD,zF,zC,zI,fl.bX]
  refine iK (ha.be hf) Arg.b8 (Arg.h_ g) g1 rfl rfl (fun id hid=>hW id (zR hf.next hid)) fun vn h1 f1 rA ov=>?_
  have H6:=hf.bQ f1
  simp only[fl.bT,aj,aF,ov,aA,zG,Arg.enc,zA,zB,ab,cy]
  cases hx:(g.index != -1) with
  |true=>
   simp only[fl.bW,ap,zD,zF,zC,zI]
   exact he (WV g1 hx) h1 H6
  |false=>
   simp only[fl.bW,ap,zE,zD,zC,zH,fl.bP,bg,w1]
   refine hK (i+1) _ _ (by omega) ⟨rfl,by omega,H6,fun j a hj kA=>?_⟩
   rcases Nat.lt_succ_iff_lt_or_eq.1 hj with h1 |h1
   ·exact hb j a h1 kA
   ·subst h1;rw[g1]at kA;cases kA;exact hx
 ·have eG:¬(i:Int)<y.1.args.length:=by omega
  simp only[fl.cq,bu,zK eG,fl.cl,ap,zD,zE,zC,zH,zV,zN,zO]
  exact hk (WU fun j a kA=>hb j a (by have:=(zM.1 kA).1;omega) kA) h' hf
theorem JR(hW:∀id,h.next<=id->W id)(hWd:W dd)(cW:h.obj vr=some (aI (ay y) 6 46))(ha:cb Arg.enc 2 67 h y.2 y.1.args)(hl:y.1.args.length<=100000000){d:dH}(hd:h.obj dd=some (wx aV d))
  (he:Gf (y.1.args.map (·.name))=true->∀h',Fr h h' (·=dd)->QR [I 113] h')
  (hk:Gf (y.1.args.map (·.name))=false->∀xp h',h'.obj dd=some (wx xp d)->bC nr 1 9 h' xp (y.1.args.map (·.name))->Fr h h' (·=dd)->fl.n2 W QR QN QE QP x0 (.ptr vr 0) (.ptr dd 0) h'):fl.bM W QR QN QE QP x0 (.ptr vr 0) (.ptr dd 0) h:=by
 unfold fl.bM
 refine Aa (enc:=Sb) fun sm h1 os Lt f1=>?_
 have vj:=f1.bI cW
 have Dt:=f1.bI hd
 unfold fl.bF
 simp only[aj,aF,vj,aA,zG,ay,zA,zB,ab,ha.len.1,ha.len.2,zH]
 have oO:dd<h.next:=h.lt _ _ hd
 unfold fl.br
 refine cJ (ι:=Nat) (fun i v h'=>v=[x0,.ptr vr 0,.ptr dd 0,.mp sm,y.2,I y.1.args.length,I i]/\i<=y.1.args.length/\Fr h h' (·=dd) /\
  (∃sl:List (ByteArray×AV),h'.obj sm=some (lc Sb 157 sl)/\sl.map (·.1)=(y.1.args.take i).map (·.name)) /\
  (∃xp,h'.obj dd=some (wx xp d)/\bC nr 1 9 h' xp ((y.1.args.take i).map (·.name))/\df (fun id=>h.next<=id/\id≠sm) xp) /\
  ∀j a,j<i->(y.1.args.map (·.name))[j]?=some a->gB a ((y.1.args.map (·.name)).take j)=false) (fun i=>y.1.args.length-i) 0
  ⟨rfl,by omega,f1.mono fun _ h=>h.elim,⟨[],os,rfl⟩,⟨aV,Dt,.nil,fun _ _ _ he=>by cases he⟩,fun j a h=>by omega⟩ ?_
 rintro K i v h' ⟨rfl,hi,hf,⟨sl,qx,mT⟩,⟨xp,Vc,Fy,Fx⟩,hb⟩ hK
 simp only[fl.cT,zN,zO]
 have hda:∀{h2},Fr h h2 (·=dd)->cb Arg.enc 2 67 h2 y.2 y.1.args:=fun hf=>ha.fr hf fun id o ho js e=>by
  subst e;rw[hd]at ho;cases ho;exact absurd (js rfl) (show ¬(127:Nat)=67 by decide)
 by_cases aJ:i<y.1.args.length
 ·have dZ:(i:Int)<y.1.args.length:=by omega
  have g1:y.1.args[i]?=some y.1.args[i]:=zJ aJ
  have w1:IntKind.i64.wrap ((i:Int)+1)=((i+1:Nat):Int):=by rw[aX (by omega) (by omega)];simp
  have tk:(y.1.args.take (i+1)).map (·.name)=(y.1.args.take i).map (·.name)++[(y.1.args[i]).name]:=by rw[List.take_succ_eq_append_getElem aJ,List.map_append];rfl
  have L6:(y.1.args.map (·.name))[i]?=some (y.1.args[i]).name:=by rw[List.getElem?_map,g1];rfl
  generalize y.1.args[i]=g at *
  simp only[fl.ba,bu,zL dZ,fl.bc,ap,zD,zF,zC,zI,fl.aZ]
  refine iK (hda hf) Arg.b8 (Arg.h_ g) g1 rfl rfl (fun id hid=>hW id (zR hf.next hid)) fun vn h2 f2 rA ov=>?_
  have Ci:=f2.bI qx
  unfold fl.n9
  simp only[aj,aF,ov,aA,zG,Arg.enc,zA,ab]
  refine gY (enc:=Sb) jr z3 Ci fun _=>?_
  obtain⟨zz,ez⟩:=C5 (z:=I 0) (ee g.name sl)
  rw[ez,lb,mT]
  simp only[c9,zA,zB,ab]
  rw[List.map_take]
  cases hx:gB g.name ((y.1.args.map (·.name)).take i) with
  |true=>
   simp only[fl.n8,fl.n7,ap,zD,zF,zC,zI]
   exact he (Cr L6 hx) h2 (hf.trans (f2.mono fun _ h=>h.elim))
  |false=>
   simp only[fl.n8,fl.n7,ap,zE,zD,zC,zH,fl.n5,aj,aF,ov,aA,zG,Arg.enc,zA,ab]
   have kZ:ee g.name sl=none:=by
    have:=lb (n:=g.name) (l:=sl)
    rw[mT,List.map_take,hx]at this
    cases hy:ee g.name sl with
    |none=>rfl
    |some _=>rw[hy]at this;cases this
   have hWm:∀{h3:AH},h.next<=h3.next->∀id,h.next<=id->W id:=fun _ id hid=>hW id hid
   refine ua (enc:=Sb) jr (hW sm Lt) Ci kZ fun h3 PO f3=>?_
   have aaV:=f2.bI Vc
   have e3:dd≠sm:=by omega
   have Vb:h3.obj dd=some (wx xp d):=f3.obj aaV e3
   have rp:h3.obj vn=some (aI g.enc 2 67):=f3.obj ov (bG ov Ci (show(67:Nat)≠157 by decide))
   simp only[fl.n4,aL,aj,aF,Vb,rp,aA,zG,Arg.enc,zA,zB,ab]
   have jQ:bC nr 1 9 h3 xp ((y.1.args.take i).map (·.name)):=by
    rcases Fy with Fy |⟨id,e,ho⟩
    ·exact .inl Fy
    ·exact .inr ⟨id,e,f3.obj (f2.bI ho) (Fx id 0 _ e).2⟩
   refine Gy (f:=nr) F_ (by decide) rfl (by decide) rfl (OF _) jQ (fun id off n e=>hW id (Fx id off n e).1) (by rw[zZ,yA];omega) fun y2 h4 Fs eL f4=>?_
   have ZX:h4.obj dd=some (wx xp d):=f4.obj Vb fun⟨off,n,e⟩=>by have:=(Fx dd off n e).1;omega
   simp only[aL,aj,zG,az,ZX,cn,Fs.gy.one.2]
   refine⟨⟨hWd,by rw[List.all_cons,Fs.gy.one.1];rfl,rfl,by simp⟩,?_⟩
   have f5:Fr h4 (h4.put dd 1 [y2]) (·=dd):=Fr.refl.put (.inl rfl)
   have o5:=gW (off:=1) (cs:=[y2]) ZX
   generalize h4.put dd 1 [y2]=h5 at *
   simp only[fl.n3,bg,w1]
   have sm4:h4.obj sm=some (lc Sb 157 (sl++[(g.name,I i)])):=f4.obj PO fun⟨off,n,e⟩=>(Fx sm off n e).2 rfl
   have n3:h.next<=h3.next:=zR (zR hf.next f2.next) f3.next
   have fz:Fr h h5 (·=dd):=by
    refine(((hf.trans (f2.mono fun _ h=>h.elim)).trans (f3.mono fun id e=>.inr (by rw[e];exact Lt))).trans (f4.mono fun id ⟨off,n,e⟩=>.inr (Fx id off n e).1)).trans (f5.mono fun id e=>.inl e)
   refine hK (i+1) _ _ (by omega) ⟨rfl,by omega,fz,⟨_,f5.obj sm4 (fun e=>e3 e.symm),by rw[List.map_append,mT,tk];rfl⟩,⟨y2,o5,?_,fun id off n e=>?_⟩,fun j a hj kA=>?_⟩
   ·rw[tk]
    rcases Fs with Fs |⟨id,e,ho⟩
    ·exact .inl Fs
    ·exact .inr ⟨id,e,f5.obj ho (by have:=eL id 0 _ e;omega)⟩
   ·have:=eL id off n e
    refine⟨by omega,?_⟩
    have:sm<h3.next:=h3.lt _ _ PO
    have:=eL id off n e
    omega
   ·rcases Nat.lt_succ_iff_lt_or_eq.1 hj with h1 |h1
    ·exact hb j a h1 kA
    ·subst h1;rw[L6]at kA;cases kA;exact hx
 ·have eG:¬(i:Int)<y.1.args.length:=by omega
  have ht:y.1.args.take i=y.1.args:=List.take_of_length_le (by omega)
  rw[ht]at Fy
  simp only[fl.ba,bu,zK eG,fl.bc,ap,zD,zE,zC,zH,zV,zN,zO]
  exact hk (Cq fun j a kA=>hb j a (by have:=(zM.1 kA).1;rw[zZ]at this;omega) kA) xp h' Vc Fy hf
end
end
section
open Go.Ab
attribute [-simp] aH az
theorem OM{l:List dH}{ids:List Nat}{d:dH}{id:Nat}(h:ids.length=l.length):kT (l++[d]) (ids++[id])=kT l ids++[(d.name,.ptr id 0)]:=by
 unfold kT
 rw[List.zip_append h.symm,List.map_append];rfl
section
variable {h:AH} {M:Nat->Prop} {R:AE->AH->Prop} {n0 p:Nat} {xr:AV} {bk:Bk} {ids:List Nat} {qm bm gm:Nat} {pl:Int}
theorem Mk{y:Row×AV}{i:Int}(pa:PA n0 h p xr bk ids qm bm gm pl)(ha:cb Arg.enc 2 67 h y.2 y.1.args)(hl:y.1.args.length<=100000000)
  (hi:0<=i/\i<=1000000000) (hr:0<=y.1.rows/\y.1.rows<=1000000000) (hM:∀id,TW TP n0 h id->M id)
  (he:∀e h',uJ bk y.1 i=.error e->Fr h h' (fun _=>False)->R (.ret (I e)) h')
  (hk:∀b9 id h',uJ bk y.1 i=.ok b9->PA n0 h' p xr b9 (ids++[id]) qm bm gm pl->Fr h h' (TW TP n0 h)->R (.ret (I 0)) h') :
  aB Pg 91 [.ptr p 0,.agg (ay y),I i] h M R:=by
 apply fl.aO
 unfold fl.ea
 refine dF (pq ha) fun vr h1 f1 gN cW=>?_
 unfold fl.dV
 have kY:=pa.be f1
 simp only[aj,aF,cW,aA,zG,ay,zA,zB,ab]
 refine⟨fun _=>False,fun _ h=>h.elim,zg kY.p rfl rfl rfl kY.m fun h2 f2=>?_⟩
 have bY:=f1.bQ f2
 have dO:=kY.be f2
 have lM:=f2.bI cW
 have ln:=ha.be bY
 unfold uJ at he hk
 cases iz:gV bk y.1.name with
 |true=>
  have:=he 110 h2 (by rw[iz];rfl) bY
  simpa[fl.dG,fl.cU] using this
 |false=>
  rw[iz]at he hk
  simp only[zE,if_false]at he hk
  simp only[fl.dG,ap,zE,zC,zD,zH,fl.cX,aj,aF,lM,aA,zG,ay,zA,zB,ab,ln.len.1,ln.len.2,eO]
  by_cases k1:y.1.args.length=0
  ·have:=he 111 h2 (by rw[zX k1]) bY
   have iw:((y.1.args.length:Int)==0)=true:=by rw[k1];rfl
   simpa[fl.cV,fl.cE,iw] using this
  ·rw[zW k1]at he hk
   have iw:((y.1.args.length:Int)==0)=false:=by simpa using k1
   have w1:IntKind.i64.wrap (i+1)=i+1:=aX (by omega) (by omega)
   have w2:IntKind.i64.wrap (i+1+y.1.rows)=i+1+y.1.rows:=aX (by omega) (by omega)
   simp only[iw,fl.cV,ap,zE,zC,zD,zH,fl.cG,aj,aF,lM,aA,zG,ay,zA,zB,ab,bg,w1,w2]
   refine⟨_,rfl,?_⟩
   refine dF (cs:=[Sb y.1.name,aV,I (i+1),I (i+1+y.1.rows),I 1,I 0,B false]) rfl fun dd h3 f3 wR od=>?_
   have fD:=bY.bQ f3
   have oH:=f3.bI lM
   refine MG (fun id hid=>.inr (zR fD.next hid)) oH (ha.be fD) hl ?_ ?_
   ·intro hx h4 f4
    have:=he 112 h4 (by rw[zX hx]) (fD.bQ f4)
    simpa using this
   ·intro hx h4 f4
    rw[zW (by rw[hx];decide)]at he hk
    have jT:=fD.bQ f4
    have YR:h4.obj dd=some (wx aV ⟨y.1.name,[],i+1,i+1+y.1.rows,1,0,false⟩):=f4.bI od
    have Ds:h.next<=dd:=zR bY.next wR
    refine JR (fun id hid=>.inr (zR jT.next hid)) (.inr Ds) (f4.bI oH) (ha.be jT) hl YR ?_ ?_
    ·intro hx h5 f5
     have fz:Fr h h5 (fun _=>False):=jT.trans (f5.mono fun id e=>.inr (by rw[e];exact Ds))
     have:=he 113 h5 (by rw[zX hx]) fz
     simpa using this
    ·intro hx xp h5 od5 hp5 f5
     rw[zW (by rw[hx];decide)]at hk
     have oq:Fr h h5 (fun _=>False):=jT.trans (f5.mono fun id e=>.inr (by rw[e];exact Ds))
     have r9:=pa.be oq
     have HA:h5.obj vr=some (aI (ay y) 6 46):=f5.obj (f4.bI oH) (bG (f4.bI oH) YR (show(46:Nat)≠127 by decide))
     unfold fl.n2
     simp only[aL,aj,aF,r9.p,HA,aA,zG,ay,zA,zB,ab]
     have uB:ee y.1.name (kT bk.ds ids)=none:=by
      unfold gV at iz
      simp only[Bool.or_eq_false_iff]at iz
      have h1:=iz.1.2
      rcases nl (n:=y.1.name) pa.m.len with⟨h2,_⟩ |⟨k,d,id,h2,h3,_⟩
      ·exact h2
      ·rw[h3]at h1;cases h1
     have g0:=pa.m.g
     refine ua (enc:=Sb) jr (.inl (hM _ ⟨pa.n.2.2.2.1,_,g0,rfl,rfl⟩)) r9.m.g uB fun h6 og f6=>?_
     have DH:Fr h h6 (TW TP n0 h):=TW.trans (TW.bp oq) (TW.mO f6 pa.n.2.2.2.1 r9.m.g rfl rfl)
     have Jo:∀id∈ids,id<h.next:=fun id hid=>by
      obtain⟨k,hk,rfl⟩:=List.mem_iff_getElem.1 hid
      obtain⟨xp,h1,_⟩:=pa.m.d k _ _ (zJ (by rw[<-pa.m.len];exact hk)) (zJ hk)
      exact h.lt _ _ h1
     have h0n:n0<=h.next:=zR pa.n.1 (Nat.le_of_lt (h.lt _ _ pa.p))
     have dr:∀{j:Nat}{o:AO},h5.obj j=some o->o.ty≠95->h6.obj j=some o:=fun ho b7=>f6.obj ho (bG ho r9.m.g b7)
     have:=hk _ dd h6 rfl ⟨⟨pa.n.1,pa.n.2.1,pa.n.2.2.1,pa.n.2.2.2.1,fun id hid=>?_⟩,dr r9.p (show(97:Nat)≠95 by decide),⟨dr r9.m.q (show(94:Nat)≠95 by decide),dr r9.m.b (show(94:Nat)≠95 by decide),by rw[OM pa.m.len];exact og,by rw[List.length_append,List.length_append,pa.m.len];rfl,fun k d id hd hi=>?_,?_,pa.m.qb⟩⟩ DH
     ·simpa using this
     ·rcases List.mem_append.1 hid with hid |hid
      ·exact pa.n.2.2.2.2 id hid
      ·simp only[List.mem_singleton]at hid;subst hid;exact zR h0n Ds
     ·have mk:∀{id:Nat}{d:dH},sS h5 id d->sS h6 id d:=fun a=>a.fr f6 fun i o ho ht e=>by
       subst e
       rw[r9.m.g]at ho;cases ho
       rcases ht with ht |ht
       ·exact absurd ht (show ¬(95:Nat)=127 by decide)
       ·exact absurd ht (show ¬(95:Nat)=9 by decide)
      by_cases hk:k<bk.ds.length
      ·rw[List.getElem?_append_left hk]at hd
       rw[List.getElem?_append_left (by rw[pa.m.len];exact hk)]at hi
       exact mk (r9.m.d k d id hd hi)
      ·rw[List.getElem?_append_right (by omega)]at hd
       rw[List.getElem?_append_right (by rw[pa.m.len];omega),pa.m.len]at hi
       have LA:k-bk.ds.length=0:=by
        have:=(zM.1 hd).1
        simp at this;omega
       rw[LA]at hd hi
       simp only[zA,zQ]at hd hi
       subst hd;subst hi
       exact mk ⟨xp,od5,hp5⟩
     ·rw[List.nodup_append]
      refine⟨pa.m.nd,by simp,fun a ha b hb=>?_⟩
      simp only[List.mem_singleton]at hb
      subst hb
      have:=Jo a ha
      omega
end
end
section
open Go.Ab
attribute [-simp] aH az
theorem V7:k_ Pg 67=some [true,false]:=by kernel_rfl
abbrev Cp(x:ByteArray×Int):AV:=.agg [Sb x.1,I x.2]
theorem P6:uY Pg 67 Cp:=Sn V7
theorem qG:rz Pg 122=true:=by kernel_rfl
def lY(ids:List Nat)(own:Option Nat)(x:AV):Prop:=match own with |none=>x=.sc (.pointer none) |some k=>∃id,ids[k]?=some id/\x=.ptr id 0
theorem DF{f:Arg->Int}:∀{l:List Arg}{i:Nat}{a:Arg},l[i]?=some a->f a≠0->(∀j b,j<i->l[j]?=some b->f b=0)->ft f l=f a
 |[],i,a,h,_,_=>by simp at h
 |b::l,0,a,h,h1,_=>by simp only[zA,zQ]at h;subst h;simp[ft,h1]
 |b::l,i+1,a,h,h1,h2=>by
  have:=h2 0 b (by omega) rfl
  simp only[ft,this]
  rw[zW (by decide)]
  exact DF (by simpa using h) h1 fun j c hj hc=>h2 (j+1) c (by omega) (by simpa using hc)
theorem DE{f:Arg->Int}:∀{l:List Arg},(∀(j:Nat)(b:Arg),l[j]?=some b->f b=0)->ft f l=0
 |[],_=>rfl
 |b::l,h=>by
  have:=h 0 b rfl
  simp only[ft,this]
  rw[zW (by decide)]
  exact DE fun j c hc=>h (j+1) c (by simpa using hc)
section
variable {W:Nat->Prop} {QR QN:VK} {QE:Nat->VK} {QP:AV->AH->Prop} {h:AH} {n0 p vr:Nat} {xr x2:AV} {bk:Bk} {ids:List Nat} {qm bm gm:Nat} {pl:Int} {y:Row×AV} {own:Option Nat} {n dp:Int}
theorem S1(hW:∀id,h.next<=id->W id)(cW:h.obj vr=some (aI (ay y) 6 46))(ha:cb Arg.enc 2 67 h y.2 y.1.args)(hl:y.1.args.length<=100000000)
  (he:w_ y.1.args=true->∀h',Fr h h' (fun _=>False)->QR [I 113] h')
  (hk:w_ y.1.args=false->∀h',Fr h h' (fun _=>False)->ci.n7 W QR QN QE QP x2 (I dp) h'):ci.bT W QR QN QE QP x2 (.ptr vr 0) (I dp) h:=by
 unfold ci.bT
 refine Aa (enc:=Cp) fun sm h1 os Lt f1=>?_
 unfold ci.bW
 simp only[aj,aF,f1.bI cW,aA,zG,ay,zA,zB,ab,ha.len.1,ha.len.2,zH]
 unfold ci.bN
 refine cJ (ι:=Nat) (fun i v h'=>v=[x2,I dp,.mp sm,y.2,I y.1.args.length,I i]/\i<=y.1.args.length/\Fr h h' (fun _=>False) /\
  (∃sl:List ((ByteArray×Int)×AV),h'.obj sm=some (lc Cp 173 sl)/\sl.map (·.1)=(y.1.args.take i).map fZ) /\
  ∀j a,j<i->(y.1.args.map fZ)[j]?=some a->gB a ((y.1.args.map fZ).take j)=false) (fun i=>y.1.args.length-i) 0
  ⟨rfl,by omega,f1,⟨[],os,rfl⟩,fun j a h=>by omega⟩ ?_
 rintro K i v h' ⟨rfl,hi,hf,⟨sl,qx,mT⟩,hb⟩ hK
 simp only[ci.cT,zN,zO]
 by_cases aJ:i<y.1.args.length
 ·have dZ:(i:Int)<y.1.args.length:=by omega
  have g1:y.1.args[i]?=some y.1.args[i]:=zJ aJ
  have w1:IntKind.i64.wrap ((i:Int)+1)=((i+1:Nat):Int):=by rw[aX (by omega) (by omega)];simp
  have tk:(y.1.args.take (i+1)).map fZ=(y.1.args.take i).map fZ++[fZ y.1.args[i]]:=by rw[List.take_succ_eq_append_getElem aJ,List.map_append];rfl
  have L6:(y.1.args.map fZ)[i]?=some (fZ y.1.args[i]):=by rw[List.getElem?_map,g1];rfl
  generalize y.1.args[i]=g at *
  simp only[ci.bP,bu,zL dZ,ci.bM,ap,zD,zF,zC,zI,ci.bF]
  refine iK (ha.be hf) Arg.b8 (Arg.h_ g) g1 rfl rfl (fun id hid=>hW id (zR hf.next hid)) fun vn h2 f2 rA ov=>?_
  have Ci:=f2.bI qx
  unfold ci.br
  refine dX ov rfl fun _=>?_
  have ek:AV.agg g.enc=Cp (fZ g):=rfl
  rw[ek]
  refine gY (enc:=Cp) P6 z3 Ci fun _=>?_
  obtain⟨zz,ez⟩:=C5 (z:=I 0) (ee (fZ g) sl)
  rw[ez,lb,mT]
  simp only[c9,zA,zB,ab]
  rw[List.map_take]
  cases hx:gB (fZ g) ((y.1.args.map fZ).take i) with
  |true=>
   simp only[ci.ba,ci.bc,ap,zD,zF,zC,zI]
   exact he (Cr L6 hx) h2 (hf.bQ f2)
  |false=>
   simp only[ci.ba,ci.bc,ap,zE,zD,zC,zH]
   unfold ci.n9
   refine dX ov rfl fun _=>?_
   have kZ:ee (fZ g) sl=none:=by
    have:=lb (n:=fZ g) (l:=sl)
    rw[mT,List.map_take,hx]at this
    cases hy:ee (fZ g) sl with
    |none=>rfl
    |some _=>rw[hy]at this;cases this
   refine ua (enc:=Cp) P6 (hW sm Lt) Ci kZ fun h3 PO f3=>?_
   simp only[ci.n8,bg,w1]
   refine hK (i+1) _ _ (by omega) ⟨rfl,by omega,?_,⟨_,PO,by rw[List.map_append,mT,tk];rfl⟩,fun j a hj kA=>?_⟩
   ·exact(hf.bQ f2).trans (f3.mono fun id e=>.inr (by rw[e];exact Lt))
   ·rcases Nat.lt_succ_iff_lt_or_eq.1 hj with h1 |h1
    ·exact hb j a h1 kA
    ·subst h1;rw[L6]at kA;cases kA;exact hx
 ·have eG:¬(i:Int)<y.1.args.length:=by omega
  simp only[ci.bP,bu,zK eG,ci.bM,ap,zD,zE,zC,zH,zV,zN,zO]
  exact hk (Cq fun j a kA=>hb j a (by have:=(zM.1 kA).1;rw[zZ]at this;omega) kA) h' hf
theorem lY.cases(pm:PM h bk ids qm bm gm)(ho:lY ids own x2):(own=none/\jY bk own=none/\x2=.sc (.pointer none))\/∃k id d,own=some k/\jY bk own=some d/\bk.ds[k]?=some d/\ids[k]?=some id/\x2=.ptr id 0/\sS h id d:=by
 cases own with
 |none=>exact .inl ⟨rfl,rfl,ho⟩
 |some k=>
  obtain⟨id,h1,h2⟩:=ho
  have hk:k<bk.ds.length:=by rw[<-pm.len];exact(zM.1 h1).1
  have h3:=zJ hk
  exact .inr ⟨k,id,_,rfl,h3,h3,h1,h2,pm.d k _ id h3 h1⟩
theorem O_(hW:∀id,h.next<=id->W id)(pa:PA n0 h p xr bk ids qm bm gm pl)(ho:lY ids own x2)(cW:h.obj vr=some (aI (ay y) 6 46))(ha:cb Arg.enc 2 67 h y.2 y.1.args)(hl:y.1.args.length<=100000000)
  (jQ:∀d∈bk.ds,d.params.length<=100000000)
  (he:ft (fG bk (jY bk own)) y.1.args≠0->∀h',Fr h h' (fun _=>False)->QR [I (ft (fG bk (jY bk own)) y.1.args)] h')
  (hk:ft (fG bk (jY bk own)) y.1.args=0->∀h',Fr h h' (fun _=>False)->ci.bT W QR QN QE QP x2 (.ptr vr 0) (I dp) h'):ci.iV W QR QN QE QP (.ptr p 0) x2 (.ptr vr 0) (I dp) h:=by
 unfold ci.iV
 simp only[aj,aF,cW,aA,zG,ay,zA,zB,ab,ha.len.1,ha.len.2,zH]
 unfold ci.jC
 refine cJ (ι:=Nat) (fun i v h'=>v=[.ptr p 0,x2,.ptr vr 0,I dp,y.2,I y.1.args.length,I i]/\i<=y.1.args.length/\Fr h h' (fun _=>False) /\
  ∀j a,j<i->y.1.args[j]?=some a->fG bk (jY bk own) a=0) (fun i=>y.1.args.length-i) 0 ⟨rfl,by omega,Fr.refl,fun j a h=>by omega⟩ ?_
 rintro K i v h' ⟨rfl,hi,hf,hb⟩ hK
 simp only[ci.ju,zN,zO]
 by_cases aJ:i<y.1.args.length
 ·have dZ:(i:Int)<y.1.args.length:=by omega
  have g1:y.1.args[i]?=some y.1.args[i]:=zJ aJ
  have w1:IntKind.i64.wrap ((i:Int)+1)=((i+1:Nat):Int):=by rw[aX (by omega) (by omega)];simp
  generalize y.1.args[i]=g at *
  simp only[ci.ir,bu,zL dZ,ci.jD,ap,zD,zF,zC,zI,ci.jp]
  refine iK (ha.be hf) Arg.b8 (Arg.h_ g) g1 rfl rfl (fun id hid=>hW id (zR hf.next hid)) fun vn h2 f2 rA ov=>?_
  have bY:=hf.bQ f2
  have dO:=pa.be bY
  have bad:∀h3,Fr h h3 (fun _=>False)->fG bk (jY bk own) g≠0->QR [I (fG bk (jY bk own) g)] h3:=fun h3 f3 b7=>by
   have e:=DF g1 b7 hb
   have:=he (by rw[e];exact b7) h3 f3
   rwa [e]at this
  have rH:∀h3,Fr h h3 (fun _=>False)->fG bk (jY bk own) g=0->∀Z6,ci.bX W QR K Z6 QP (.ptr p 0) x2 (.ptr vr 0) (I dp) y.2 (I y.1.args.length) (I i) h3:=fun h3 f3 h0 Z6=>by
   simp only[ci.bX,bg,w1]
   refine hK (i+1) _ _ (by omega) ⟨rfl,by omega,f3,fun j a hj kA=>?_⟩
   rcases Nat.lt_succ_iff_lt_or_eq.1 hj with h1 |h1
   ·exact hb j a h1 kA
   ·subst h1;rw[g1]at kA;cases kA;exact h0
  rcases ho.cases dO.m with⟨_,e2,rfl⟩ |⟨k,id,d,_,e2,oM,_,rfl,xp,od,hp⟩
  ·rw[e2]at bad rH
   unfold fG at bad rH
   simp only at bad rH
   simp only[ci.fq,ag,qG,zH,ci.ea,ap,zD,zF,zC,zI,ci.dV,aL,aj,aF,dO.p,aA,zG,zA,zB,ab]
   refine dX ov rfl fun _=>?_
   refine⟨fun _=>False,fun _ h=>h.elim,Ej dO.m.q fun h3 f3=>?_⟩
   have fD:=bY.bQ f3
   by_cases hz:ij bk.qs g=0
   ·have Fq:(ij bk.qs g != 0)=false:=by simp[hz]
    simp only[ci.dG,cy,Fq,ci.cU,ap,zE,zD,zC,zH,ci.cV]
    exact rH h3 fD hz _
   ·have Fq:(ij bk.qs g != 0)=true:=by simp[hz]
    simp only[ci.dG,cy,Fq,ci.cU,ap,zD,zF,zC,zI]
    exact bad h3 fD hz
  ·rw[e2]at bad rH
   unfold fG at bad rH
   simp only at bad rH
   have hdm:=jQ d (zP oM)
   simp only[ci.fq,ag,qG,zH,ci.ea,ap,zE,zD,zC,ci.cE,aj,aF,ov,aA,zG,Arg.enc,zA,zB,ab]
   by_cases hx:g.index=-1
   ·have sA:(g.index != -1)=false:=by simp[hx]
    rw[zW (by simpa using hx)]at bad rH
    simp only[sA,ci.cG,ap,zE,zD,zC,zH,ci.cL,aL,aj,aF,od,ov,aA,zG,Arg.enc,zA,zB,ab]
    refine⟨fun _=>False,fun _ h=>h.elim,Gl hp.gy (by omega) ?_⟩
    cases hm:gB g.name d.params with
    |true=>
     rw[hm]at bad rH
     simp only[d_,zS,ci.cq,ap,zE,zD,zC,zH]
     exact rH h2 bY rfl _
    |false=>
     rw[hm]at bad rH
     simp only[d_,zT,ci.cq,ap,zD,zF,zC,zI]
     exact bad h2 bY (by decide)
   ·have sA:(g.index != -1)=true:=by simp[hx]
    rw[zX hx]at bad
    simp only[sA,ci.cG,ap,zD,zF,zC,zI]
    exact bad h2 bY (by decide)
 ·have eG:¬(i:Int)<y.1.args.length:=by omega
  simp only[ci.ir,bu,zK eG,ci.jD,ap,zD,zE,zC,zH,zV,zN,zO]
  exact hk (DE fun j a kA=>hb j a (by have:=(zM.1 kA).1;omega) kA) h' hf
end
end
section
open Go.Ab
attribute [-simp] aH az
theorem DX(n:ByteArray):0<=dE n/\dE n<=3:=by
 unfold dE
 split
 ·rename_i x hx
  have key:∀x∈kB,0<=x.2.1/\x.2.1<=3:=by decide +kernel
  exact key x (List.mem_of_find?_eq_some hx)
 ·omega
theorem getElem?_modify'{α:Type}{f:α->α}{l:List α}{k j:Nat}:(l.modify k f)[j]?=if k=j then(l[j]?).map f else l[j]?:=by
 rw[List.getElem?_modify]
 by_cases h:k=j
 ·simp[h]
 ·simp[h]
theorem NG{l:List Nat}(h:l.Nodup){i j:Nat}{a:Nat}(hi:l[i]?=some a)(hj:l[j]?=some a):i=j:=by
 obtain⟨h1,h2⟩:=zM.1 hi
 obtain⟨h3,h4⟩:=zM.1 hj
 have hp:=List.pairwise_iff_getElem.1 h
 rcases Nat.lt_trichotomy i j with aJ |he |aJ
 ·exact absurd (h2.trans h4.symm) (hp i j h1 h3 aJ)
 ·exact he
 ·exact absurd (h4.trans h2.symm) (hp j i h3 h1 aJ)
theorem y_{f:dH->dH}(hf:∀d,(f d).name=d.name):∀{l:List dH}{ids:List Nat}{k:Nat},kT (l.modify k f) ids=kT l ids
 |[],_,k=>by simp[kT]
 |d::l,[],0=>by simp[kT]
 |d::l,[],k+1=>by simp[kT]
 |d::l,id::ids,0=>by simp[kT,hf]
 |d::l,id::ids,k+1=>by
  have:=y_ hf (l:=l) (ids:=ids) (k:=k)
  unfold kT at *
  simp only[List.modify_succ_cons,List.zip_cons_cons,List.map_cons,this]
section
variable {h:AH} {n0 p:Nat} {xr:AV} {bk:Bk} {ids:List Nat} {qm bm gm:Nat} {pl:Int}
theorem PA.Nf{h':AH}{k id:Nat}{d:dH}{f:dH->dH}{xp:AV}(pa:PA n0 h p xr bk ids qm bm gm pl)(hd:bk.ds[k]?=some d)(hi:ids[k]?=some id)(hp:bC nr 1 9 h xp d.params)(hn:∀d,(f d).name=d.name)(hpr:(f d).params=d.params)
  (ho:h'.obj id=some (wx xp (f d))) (hf:Fr h h' (·=id)):PA n0 h' p xr { bk with ds:=bk.ds.modify k f } ids qm bm gm pl/\Fr h h' (TW TP n0 h):=by
 obtain⟨xp0,hid,_⟩:=pa.m.d k d id hd hi
 have dr:∀{j:Nat}{o:AO},h.obj j=some o->o.ty≠127->h'.obj j=some o:=fun ho b7=>hf.obj ho (bG ho hid b7)
 refine⟨⟨pa.n,dr pa.p (show(97:Nat)≠127 by decide),⟨dr pa.m.q (show(94:Nat)≠127 by decide),dr pa.m.b (show(94:Nat)≠127 by decide),?_,by simp[pa.m.len],fun j e i h1 h2=>?_,pa.m.nd,pa.m.qb⟩⟩,TW.mO hf (pa.n.2.2.2.2 id (zP hi)) hid rfl rfl⟩
 ·simp only
  rw[y_ hn]
  exact dr pa.m.g (show(95:Nat)≠127 by decide)
 ·simp only at h1
  rw[getElem?_modify']at h1
  have kp:∀{x:AV}{l:List ByteArray},bC nr 1 9 h x l->bC nr 1 9 h' x l:=fun hs=>by
   rcases hs with hs |⟨i,h3,h4⟩
   ·exact .inl hs
   ·exact .inr ⟨i,h3,dr h4 (show(9:Nat)≠127 by decide)⟩
  by_cases hk:k=j
  ·subst hk
   rw[zX rfl,hd]at h1
   cases h1
   rw[hi]at h2;cases h2
   exact⟨xp,ho,by rw[hpr];exact kp hp⟩
  ·rw[zW hk]at h1
   obtain⟨x2,h3,h4⟩:=pa.m.d j e i h1 h2
   have b7:i≠id:=fun e=>by
    subst e
    exact hk (NG pa.m.nd hi h2)
   exact⟨x2,hf.obj h3 b7,kp h4⟩
end
section
variable {W:Nat->Prop} {QR QN:VK} {QE:Nat->VK} {QP:AV->AH->Prop} {h:AH} {n0 p vr:Nat} {xr x2:AV} {bk:Bk} {ids:List Nat} {qm bm gm:Nat} {pl:Int} {y:Row×AV} {own:Option Nat} {dp:Int}
theorem S0(hM:∀id,TW TP n0 h id->W id)(pa:PA n0 h p xr bk ids qm bm gm pl)(ho:lY ids own x2)(ZC:0<=dp/\dp<=1000)
  (he:own.isSome=true/\32<dp+1->QR [I 102] h)
  (hk:¬(own.isSome=true/\32<dp+1)->∀h',PA n0 h' p xr (rM bk own (dp+1)) ids qm bm gm pl->Fr h h' (TW TP n0 h)->QR [I 0] h'):ci.n7 W QR QN QE QP x2 (I dp) h:=by
 have w1:IntKind.i64.wrap (dp+1)=dp+1:=aX (by omega) (by omega)
 rcases ho.cases pa.m with⟨e1,e2,rfl⟩ |⟨k,id,d,e1,e2,oM,tG,rfl,xp,od,hp⟩
 ·subst e1
  simp only[ci.n7,ag,qG,zH,ci.n6,ap,zE,zD,zC,ci.n1]
  exact hk (fun h=>by cases h.1) h pa (TW.bp Fr.refl)
 ·subst e1
  simp only[ci.n7,ag,qG,zH,ci.n6,ap,zD,zF,zC,zI,ci.n5,w1]
  by_cases k1:32<dp+1
  ·simp only[gt_iff_lt,zL k1,ci.n4,ap,zD,zF,zC,zI,ci.n3]
   exact he ⟨rfl,k1⟩
  ·simp only[gt_iff_lt,zK k1,ci.n4,ap,zE,zD,zC,zH,ci.n2,aL,aj,aF,od,aA,zG,zA,zB,ab,bg,w1,vi,az,eY,cn]
   have Jo:=pa.n.2.2.2.2 id (zP tG)
   refine⟨⟨hM id ⟨Jo,_,od,rfl,rfl⟩,rfl,rfl,by simp⟩,?_⟩
   have acu:(if d.depth<dp+1 then dp+1 else d.depth)=max d.depth (dp+1):=by
    by_cases hh:d.depth<dp+1
    ·rw[zX hh];omega
    ·rw[zW hh];omega
   simp only[zE,if_false,acu,ci.n1]
   have f1:Fr h (h.put id 4 [I (max d.depth (dp+1))]) (·=id):=Fr.refl.put (.inl rfl)
   have o1:=gW (off:=4) (cs:=[I (max d.depth (dp+1))]) od
   generalize h.put id 4 [I (max d.depth (dp+1))]=h1 at *
   obtain⟨kY,fz⟩:=pa.Nf (f:=fun d=>{ d with depth:=max d.depth (dp+1) }) oM tG hp (fun _=>rfl) rfl o1 f1
   exact hk (fun h=>k1 h.2) h1 kY fz
theorem SZ(hW:∀id,h.next<=id->W id)(hM:∀id,TW TP n0 h id->W id)(pa:PA n0 h p xr bk ids qm bm gm pl)(ho:lY ids own x2)(cW:h.obj vr=some (aI (ay y) 6 46))(ha:cb Arg.enc 2 67 h y.2 y.1.args)(hl:y.1.args.length<=100000000)
  (jQ:∀d∈bk.ds,d.params.length<=100000000) {n:Int} (ZC:0<=dp/\dp<=1000)
  (he:∀e h',(if n=0 then Except.error 80 else if (y.1.args.length:Int)≠n then .error 111 else if ft (fG bk (jY bk own)) y.1.args≠0 then .error (ft (fG bk (jY bk own)) y.1.args) else if w_ y.1.args then .error 113 else if own.isSome=true/\32<dp+1 then .error 102 else .ok (rM bk own (dp+1)):Er Bk)=.error e->Fr h h' (fun _=>False)->QR [I e] h')
  (hk:∀b9 h',(if n=0 then Except.error 80 else if (y.1.args.length:Int)≠n then .error 111 else if ft (fG bk (jY bk own)) y.1.args≠0 then .error (ft (fG bk (jY bk own)) y.1.args) else if w_ y.1.args then .error 113 else if own.isSome=true/\32<dp+1 then .error 102 else .ok (rM bk own (dp+1)):Er Bk)=.ok b9->PA n0 h' p xr b9 ids qm bm gm pl->Fr h h' (TW TP n0 h)->QR [I 0] h') :
  ci.jf W QR QN QE QP (.ptr p 0) x2 (.ptr vr 0) (I n) (I dp) h:=by
 unfold ci.jf
 simp only[eO]
 by_cases k1:n=0
 ·have:=he 80 h (by rw[zX k1]) Fr.refl
  simpa[ci.jo,ci.jN,k1] using this
 rw[zW k1]at he hk
 have iw:(n==0)=false:=by simpa using k1
 simp only[iw,ci.jo,ap,zE,zD,zC,zH,ci.iN,aj,aF,cW,aA,zG,ay,zA,zB,ab,ha.len.1,ha.len.2,cy,la]
 by_cases k2:(y.1.args.length:Int)=n
 ·rw[zW (by simpa using k2)]at he hk
  simp only[zL k2,zS,ci.iq,ap,zE,zD,zC,zH]
  refine O_ hW pa ho cW ha hl jQ ?_ ?_
  ·intro h0 h1 f1
   exact he _ h1 (by rw[zX h0]) f1
  ·intro h0 h1 f1
   rw[zW (by simpa using h0)]at he hk
   refine S1 (fun id hid=>hW id (zR f1.next hid)) (f1.bI cW) (ha.be f1) hl ?_ ?_
   ·intro hx h2 f2
    exact he _ h2 (by rw[zX hx]) (f1.bQ f2)
   ·intro hx h2 f2
    rw[zW (by rw[hx];decide)]at he hk
    have bY:=f1.bQ f2
    have back:∀id,TW TP n0 h2 id->W id:=fun id hid=>(TW.back (TW.bp bY) hid).elim (hM id) (hW id)
    refine S0 back (pa.be bY) ho ZC ?_ ?_
    ·intro hc
     exact he _ h2 (by rw[zX hc]) bY
    ·intro hc h3 A4 f3
     exact hk _ h3 (by rw[zW hc]) A4 (TW.trans (TW.bp bY) f3)
 ·have:=he 111 h (by rw[zX k2]) Fr.refl
  simpa[k2,ci.iq,ci.j_] using this
theorem O9(hW:∀id,h.next<=id->W id)(hM:∀id,TW TP n0 h id->W id)(pa:PA n0 h p xr bk ids qm bm gm pl)(ho:lY ids own x2)(cW:h.obj vr=some (aI (ay y) 6 46))(ha:cb Arg.enc 2 67 h y.2 y.1.args)(hl:y.1.args.length<=100000000)
  (jQ:∀d∈bk.ds,d.params.length<=100000000/\0<=d.depth/\d.depth<=100)
  (he:∀e h',pH bk own y.1.name=false->lG bk own y.1=.error e->Fr h h' (fun _=>False)->QR [I e] h')
  (hk:∀b9 h',pH bk own y.1.name=false->lG bk own y.1=.ok b9->PA n0 h' p xr b9 ids qm bm gm pl->Fr h h' (TW TP n0 h)->QR [I 0] h') (lQ:pH bk own y.1.name=false):ci.yq W QR QN QE QP (.ptr p 0) x2 (.ptr vr 0) h:=by
 unfold ci.yq
 simp only[aj,aF,cW,aA,zG,ay,zA,zB,ab]
 refine⟨fun _=>False,fun _ h=>h.elim,Ar fun h1 f1=>?_⟩
 have kY:=pa.be f1
 unfold ci.km
 simp only[aL,aj,aF,kY.p,f1.bI cW,aA,zG,ay,zA,zB,ab]
 refine gY (enc:=Sb) jr z87 kY.m.g fun _=>?_
 have Dv:∀id,h1.next<=id->W id:=fun id hid=>hW id (zR f1.next hid)
 have Dw:∀id,TW TP n0 h1 id->W id:=fun id hid=>(TW.back (TW.bp f1) hid).elim (hM id) (hW id)
 have ue:lG bk own y.1=(if (l7 bk y.1.name).1=0 then Except.error 80 else if (y.1.args.length:Int)≠(l7 bk y.1.name).1 then .error 111 else if ft (fG bk (jY bk own)) y.1.args≠0 then .error (ft (fG bk (jY bk own)) y.1.args) else if w_ y.1.args then .error 113 else if own.isSome=true/\32<(l7 bk y.1.name).2+1 then .error 102 else .ok (rM bk own ((l7 bk y.1.name).2+1)):Er Bk):=by
  unfold lG;rw[lQ];rfl
 rw[ue]at he hk
 have go:∀n dp:Int,l7 bk y.1.name=(n,dp)->0<=dp/\dp<=1000->ci.jf W QR QN QE QP (.ptr p 0) x2 (.ptr vr 0) (I n) (I dp) h1:=fun n dp hw hd=>by
  rw[hw]at he hk
  exact SZ Dv Dw kY ho (f1.bI cW) (ha.be f1) hl (fun d hd=>(jQ d hd).1) hd (fun e h' h2 f2=>he e h' lQ h2 (f1.bQ f2)) (fun b9 h' h2 dO f2=>hk b9 h' lQ h2 dO (TW.trans (TW.bp f1) f2))
 unfold l7 at go
 rcases nl (n:=y.1.name) kY.m.len with⟨e1,e2⟩ |⟨k,d,id,e1,e2,oM,tG⟩
 ·rw[e2]at go
  rw[e1]
  simp only[fL,zV,c9,zA,zB,ab,ci.qv,ci.si,dW,zE,zC,zD,zH,zS,ci.mw,c_,if_false,ci.kJ,ap]
  exact go _ _ rfl (by omega)
 ·rw[e2]at go
  rw[e1]
  obtain⟨xp,od,hp⟩:=kY.m.d k d id oM tG
  have hd:=jQ d (zP oM)
  simp only[fL,zV,c9,zA,zB,ab,ci.qv,ci.si,dW,zD,zS,zF,zC,zI,aL,aj,aF,od,aA,zG,ci.mw,c_,ci.kJ]
  cases Y5:d.whole with
  |true=>
   simp only[Y5,zV]at go
   simp only[ap,zD,zF,zC,zI,aL,aj,aF,od,aA,zG,zA,zB,ab,hp.gy.len.1,hp.gy.len.2,zH]
   exact go _ _ rfl (by omega)
  |false=>
   simp only[Y5,zE,if_false]at go
   simp only[ap,zE,zD,zC,zH]
   exact go _ _ rfl (by omega)
end
section
variable {h:AH} {M:Nat->Prop} {R:AE->AH->Prop} {n0 p:Nat} {xr x2:AV} {bk:Bk} {ids:List Nat} {qm bm gm:Nat} {pl:Int} {own:Option Nat}
theorem Tv{y:Row×AV}(pa:PA n0 h p xr bk ids qm bm gm pl)(ho:lY ids own x2)(ha:cb Arg.enc 2 67 h y.2 y.1.args)(hl:y.1.args.length<=100000000)
  (jQ:∀d∈bk.ds,d.params.length<=100000000/\0<=d.depth/\d.depth<=100) (hM:∀id,TW TP n0 h id->M id)
  (he:∀e h',lG bk own y.1=.error e->Fr h h' (fun _=>False)->R (.ret (I e)) h')
  (hk:∀b9 h',lG bk own y.1=.ok b9->PA n0 h' p xr b9 ids qm bm gm pl->Fr h h' (TW TP n0 h)->R (.ret (I 0)) h') :
  aB Pg 92 [.ptr p 0,.agg (ay y),x2] h M R:=by
 apply ci.aO
 unfold ci.A9
 refine dF (pq ha) fun vr h1 f1 gN cW=>?_
 have kY:=pa.be f1
 have Dv:∀id,h1.next<=id->(M id\/h.next<=id):=fun id hid=>.inr (zR f1.next hid)
 have Dw:∀id,TW TP n0 h1 id->(M id\/h.next<=id):=fun id hid=>(TW.back (TW.bp f1) hid).elim (fun h=>.inl (hM id h)) .inr
 have go:pH bk own y.1.name=false->ci.yq (fun id=>M id\/h.next<=id) (aK Pg [.tmp 6] R) (aK Pg [.tmp 6] R) (fun _ _ _=>False) (fun v h=>R (.b6 v) h) (.ptr p 0) x2 (.ptr vr 0) h1:=fun lQ=>
  O9 Dv Dw kY ho cW (ha.be f1) hl jQ (fun e h' _ h2 f2=>by simpa using he e h' h2 (f1.bQ f2)) (fun b9 h' _ h2 dO f2=>by simpa using hk b9 h' h2 dO (TW.trans (TW.bp f1) f2)) lQ
 unfold ci.A_
 rcases ho.cases kY.m with⟨e1,e2,rfl⟩ |⟨k,id,d,e1,e2,oM,tG,rfl,xp,od,hp⟩
 ·simp only[ag,qG,zH,ci.wA,dW,zE,zS,zC,zD,ci.vk,c_,if_false,ci.yp,ap]
  exact go (by unfold pH;rw[e2])
 ·by_cases k1:y.1.name=d.name
  ·have:=he 114 h1 (by unfold lG pH;rw[e2];simp[k1]) f1
   simp only[ag,qG,zH,ci.wA,dW,zS,zD,zF,zC,zI,aj,aF,cW,aA,zG,ay,zA,zB,ab,aL,od,zL k1,ci.vk,c_,zV,ci.yp,ap,ci.C3]
   simpa using this
  ·simp only[ag,qG,zH,ci.wA,dW,zS,zD,zF,zC,zI,aj,aF,cW,aA,zG,ay,zA,zB,ab,aL,od,zK k1,ci.vk,c_,zV,ci.yp,ap,zE]
   exact go (by unfold pH;rw[e2];simpa using k1)
end
end
section
open Go.Ab
attribute [-simp] aH az
theorem EW{t:TypeId}{c:Bool}{k k':IntKind}{a b:Int}{K:AV->Prop}:ag Pg .shl t c (.sc (.int k a)) (.sc (.int k' b)) K=(0<=b/\K (.sc (.int k (k.wrap (a*2^(min b.toNat k.bits)))))):=rfl
structure CB (bk:Bk):Prop where
 tq:0<=aU bk.qs/\aU bk.qs<=64
 tb:0<=aU bk.bs/\aU bk.bs<=64
 sq:∀r∈bk.qs,1<=r.size/\0<=r.from_/\r.from_+r.size<=aU bk.qs
 sb:∀r∈bk.bs,1<=r.size/\0<=r.from_/\r.from_+r.size<=aU bk.bs
 ds:∀d∈bk.ds,d.params.length<=100000000/\0<=d.depth/\d.depth<=100/\0<=d.ops/\d.ops<=4097
theorem CB.d3{bk:Bk}(a:CB bk):∀d∈bk.ds,d.params.length<=100000000/\0<=d.depth/\d.depth<=100:=fun d hd=>⟨(a.ds d hd).1,(a.ds d hd).2.1,(a.ds d hd).2.2.1⟩
section
variable {W:Nat->Prop} {QR QN:VK} {QE:Nat->VK} {QP:AV->AH->Prop} {h:AH} {n0 p vr:Nat} {xr x3:AV} {bk:Bk} {ids:List Nat} {qm bm gm:Nat} {pl i:Int} {y:Row×AV} {own:Option Nat}
structure rP (W:Nat->Prop) (QR:VK) (h:AH) (n0 p:Nat) (xr:AV) (bk:Bk) (ids:List Nat) (qm bm gm:Nat) (pl:Int) (own:Option Nat) (x3:AV) (y:Row×AV) (vr:Nat) (res:Er Bk):Prop where
 pa:PA n0 h p xr bk ids qm bm gm pl
 ok:CB bk
 ow:lY ids own x3
 cW:h.obj vr=some (aI (ay y) 6 46)
 ha:cb Arg.enc 2 67 h y.2 y.1.args
 hl:y.1.args.length<=100000000
 hW:∀id,h.next<=id->W id
 hM:∀id,TW TP n0 h id->W id
 he:∀e h',res=.error e->Fr h h' (fun _=>False)->QR [I e] h'
 hk:∀b9 uy h',res=.ok b9->PA n0 h' p xr b9 uy qm bm gm pl->(uy=ids\/∃id,uy=ids++[id])->Fr h h' (TW TP n0 h)->QR [I 0] h'
theorem Yi(k:rP W QR h n0 p xr bk ids qm bm gm pl own x3 y vr ((f_ bk bk.qs 64 y.1).map fun l=>{ bk with qs:=l })):cw.n2 W QR QN QE QP (.ptr p 0) (.ptr vr 0) h:=by
 unfold cw.n2
 refine dX k.cW rfl fun _=>?_
 simp only[aL,aj,aF,k.pa.p,aA,zG,Nat.add_zero,zA,zB,ab]
 refine⟨TW TP n0 h,fun id hs _=>k.hM id hs,Ml k.pa k.ha rfl k.ok.tq (fun _ h=>h) ?_ ?_⟩
 ·intro e h' h1 f1
  exact k.he e h' (by rw[h1];rfl) f1
 ·intro l' h' h1 A5 f1
  exact k.hk _ ids h' (by rw[h1];rfl) A5 (.inl rfl) f1
theorem Ym(k:rP W QR h n0 p xr bk ids qm bm gm pl own x3 y vr ((f_ bk bk.bs 64 y.1).map fun l=>{ bk with bs:=l })):cw.n3 W QR QN QE QP (.ptr p 0) (.ptr vr 0) h:=by
 unfold cw.n3
 refine dX k.cW rfl fun _=>?_
 simp only[aL,aj,aF,k.pa.p,aA,zG,Nat.add_zero,Nat.reduceAdd,zA,zB,ab]
 refine⟨TW TP n0 h,fun id hs _=>k.hM id hs,Mm k.pa k.ha rfl k.ok.tb (fun _ h=>h) ?_ ?_⟩
 ·intro e h' h1 f1
  exact k.he e h' (by rw[h1];rfl) f1
 ·intro l' h' h1 A5 f1
  exact k.hk _ ids h' (by rw[h1];rfl) A5 (.inl rfl) f1
theorem Yl(k:rP W QR h n0 p xr bk ids qm bm gm pl own x3 y vr (uJ bk y.1 i))(hi:0<=i/\i<=1000000000)(hr:0<=y.1.rows/\y.1.rows<=1000000000):cw.n4 W QR QN QE QP (.ptr p 0) (I i) (.ptr vr 0) h:=by
 unfold cw.n4
 refine dX k.cW rfl fun _=>?_
 refine⟨TW TP n0 h,fun id hs _=>k.hM id hs,Mk k.pa k.ha k.hl hi hr (fun _ h=>h) k.he ?_⟩
 intro b9 id h' h1 A5 f1
 exact k.hk _ _ h' h1 A5 (.inr ⟨id,rfl⟩) f1
theorem Yf(k:rP W QR h n0 p xr bk ids qm bm gm pl own x3 y vr (lG bk own y.1)):cw.bT W QR QN QE QP (.ptr p 0) x3 (.ptr vr 0) h:=by
 unfold cw.bT
 refine dX k.cW rfl fun _=>?_
 refine⟨TW TP n0 h,fun id hs _=>k.hM id hs,Tv k.pa k.ow k.ha k.hl k.ok.d3 (fun _ h=>h) k.he ?_⟩
 intro b9 h' h1 A5 f1
 exact k.hk _ _ h' h1 A5 (.inl rfl) f1
theorem Pa(k:rP W QR h n0 p xr bk ids qm bm gm pl own x3 y vr (.ok bk)){h':AH}(f:Fr h h' fun _=>False):QR [I 0] h':=k.hk bk ids h' rfl (k.pa.be f) (.inl rfl) (TW.bp f)
theorem Yh(k:rP W QR h n0 p xr bk ids qm bm gm pl own x3 y vr (if y.1.num<0 then .error 112 else .ok bk)):cw.n7 W QR QN QE QP (.ptr vr 0) h:=by
 simp only[cw.n7,aj,aF,k.cW,aA,zG,ay,zA,zB,ab,bu]
 by_cases h0:y.1.num<0
 ·have:=k.he 112 h (by rw[zX h0]) Fr.refl
  simp only[zL h0,cw.n6,ap,zD,zF,zC,zI,cw.n5]
  exact this
 ·have:=k.hk bk ids h (by rw[zW h0]) k.pa (.inl rfl) (TW.bp Fr.refl)
  simp only[zK h0,cw.n6,ap,zE,zD,zC,zH,cw.n1]
  exact this
theorem Yk(k:rP W QR h n0 p xr bk ids qm bm gm pl own x3 y vr (sx bk y.1)):cw.bW W QR QN QE QP (.ptr p 0) (.ptr vr 0) h:=by
 unfold cw.bW
 simp only[aL,aj,aF,k.pa.p,k.cW,aA,zG,ay,zA,zB,ab]
 refine gY (enc:=Sb) jr z93 k.pa.m.b fun _=>?_
 rw[kS]
 have he:=k.he;have hk:=k.hk;have Qo:=k.ok.sb
 unfold sx at he hk
 cases hr:dC bk.bs y.1.name with
 |none=>
  rw[hr]at he
  simp only[Option.map_none,fL,zV,c9,zA,zB,ab]
  refine fV (cs:=[I 0,I 0]) rfl rfl rfl rfl k.hW fun v1 h2 f2 _ _=>?_
  have:=he 110 h2 rfl f2
  simpa[cw.bN,cw.bP,cw.bM] using this
 |some g=>
  rw[hr]at he hk
  simp only at he hk
  have hg:=Qo g (List.mem_of_find?_eq_some hr)
  simp only[yB,fL,zV,uE,c9,zA,zB,ab]
  refine fV (cs:=[I g.from_,I g.size]) rfl rfl rfl rfl k.hW fun v1 h2 f2 _ ov=>?_
  have lM:=f2.bI k.cW
  have dO:=k.pa.be f2
  simp only[cw.bN,d_,zS,cw.bP,ap,zE,zD,zC,zH]
  by_cases k1:y.1.num<0
  ·have:=he 112 h2 (by rw[zX (.inl k1)]) f2
   simpa[cw.bF,cw.br,lM,ay,k1] using this
  ·by_cases k2:g.size<63
   ·have hp:IntKind.i64.wrap (1*2^(min g.size.toNat IntKind.i64.bits))=2^g.size.toNat:=by
     have e:IntKind.i64.bits=64:=rfl
     rw[e,Nat.min_eq_left (by omega),Int.one_mul]
     have h1:(2:Int)^g.size.toNat=((2^g.size.toNat:Nat):Int):=by simp
     have h2:2^g.size.toNat<=2^62:=Nat.pow_le_pow_right (by decide) (by omega)
     have hP:∀P:Nat,P<=2^62->IntKind.i64.wrap (P:Int)=P:=fun P h=>aX (by omega) (by omega)
     rw[h1]
     exact hP _ h2
    have k0:0<=g.size:=by omega
    simp only[cw.bF,aj,aF,lM,ov,aA,zG,ay,zA,zB,ab,bu,zK k1,cw.br,dW,zT,zS,zE,zF,zD,zC,zI,zL k2,cw.ba,EW,k0,zH,hp,pb,ge_iff_le]
    by_cases k3:2^g.size.toNat<=y.1.num
    ·have:=he 112 h2 (by rw[zX (.inr ⟨k2,k3⟩)]) f2
     simp only[zL k3,cw.bc,dW,zT,zE,zD,zC,zI,c_,zV,cw.aZ,if_false,cw.n9,ap,zF,cw.n8]
     exact this
    ·have:=hk bk ids h2 (by rw[zW (fun h=>h.elim k1 (fun h=>k3 h.2))]) dO (.inl rfl) (TW.bp f2)
     simp only[zK k3,cw.bc,dW,zT,zE,zD,zC,zI,zH,c_,zV,cw.aZ,if_false,cw.n9,ap,zF,cw.n1]
     exact this
   ·have:=hk bk ids h2 (by rw[zW (fun h=>h.elim k1 (fun h=>k2 h.1))]) dO (.inl rfl) (TW.bp f2)
    simp[cw.bF,cw.br,cw.ba,cw.bc,cw.aZ,cw.n9,cw.n1,lM,ov,ay,k1,k2]
    exact this
theorem GU{h1:AH}{res:Er Bk}(k:rP W QR h n0 p xr bk ids qm bm gm pl own x3 y vr res)(f1:Fr h h1 fun _=>False){e:Int}(hr:res=ot e bk):QR [I e] h1:=by
 unfold ot at hr
 by_cases h0:e=0
 ·rw[zW (by simpa using h0)]at hr
  rw[h0]
  exact k.hk bk ids h1 hr (k.pa.be f1) (.inl rfl) (TW.bp f1)
 ·rw[zX h0]at hr
  exact k.he e h1 hr f1
theorem Yg(k:rP W QR h n0 p xr bk ids qm bm gm pl own x3 y vr (re bk y.1.args)):cw.dV W QR QN QE QP (.ptr p 0) (.ptr vr 0) h:=by
 have hk:=k
 simp only[cw.dV,aj,aF,k.cW,aA,zG,ay,zA,zB,ab,k.ha.len.1,k.ha.len.2,zH,cy,la]
 have hx:=k.ha
 cases ha:y.1.args with
 |nil=>
  rw[ha]at hk
  simpa[cw.dG,cw.cU] using hk.he 111 h rfl Fr.refl
 |cons a l=>
  cases l with
  |cons b l=>
   rw[ha]at hk
   have h1:¬(((a::b::l).length:Nat):Int)=1:=by simp only[List.length_cons];omega
   simp only[zK h1,zT,cw.dG,ap,zD,zF,zC,zI,cw.cU]
   exact hk.he 111 h rfl Fr.refl
  |nil=>
   rw[ha]at hx hk
   have h1:(([a].length:Nat):Int)=1:=rfl
   simp only[zL h1,zS,cw.dG,ap,zE,zD,zC,zH,cw.cX,aL,aj,aF,k.pa.p,k.cW,aA,zG,ay,zA,zB,ab]
   refine nT (i:=0) hx Arg.b8 rfl fun _=>?_
   refine⟨fun _=>False,fun _ h=>h.elim,Ej k.pa.m.q fun h1 f1=>?_⟩
   exact GU hk f1 rfl
theorem Yj(k:rP W QR h n0 p xr bk ids qm bm gm pl own x3 y vr (na bk y.1.args)):cw.cV W QR QN QE QP (.ptr p 0) (.ptr vr 0) h:=by
 have hk:=k
 simp only[cw.cV,aj,aF,k.cW,aA,zG,ay,zA,zB,ab,k.ha.len.1,k.ha.len.2,zH,cy,la]
 have hx:=k.ha
 have bad:y.1.args.length≠2->na bk y.1.args=.error 111:=fun b7=>by
  unfold na
  split
  ·rename_i h;rw[h]at b7;exact absurd rfl b7
  ·rfl
 by_cases hlen:y.1.args.length=2
 ·match ha:y.1.args,hlen with
  |[a,b],_=>
   rw[ha]at hx hk
   have h1:(([a,b].length:Nat):Int)=2:=rfl
   simp only[zL h1,zS,cw.cE,ap,zE,zD,zC,zH,cw.cN,aL,aj,aF,k.pa.p,k.cW,aA,zG,ay,zA,zB,ab]
   refine nT (i:=0) hx Arg.b8 rfl fun _=>?_
   refine⟨fun _=>False,fun _ h=>h.elim,Ej k.pa.m.q fun h1 f1=>?_⟩
   by_cases h0:ij bk.qs a=0
   ·have wW:(ij bk.qs a != 0)=false:=by simp[h0]
    have kY:=k.pa.be f1
    simp only[cw.cL,cy,wW,cw.cq,ap,zE,zD,zC,zH,cw.bX,aL,aj,aF,kY.p,f1.bI k.cW,aA,zG,ay,zA,zB,ab]
    refine nT (i:=1) (hx.be f1) Arg.b8 rfl fun _=>?_
    refine⟨fun _=>False,fun _ h=>h.elim,Ej kY.m.b fun h2 f2=>?_⟩
    exact GU hk (f1.bQ f2) (by simp only[na];rw[zW (by simpa using h0)])
   ·have wW:(ij bk.qs a != 0)=true:=by simp[h0]
    simp only[cw.cL,cy,wW,cw.cq,ap,zD,zF,zC,zI,cw.cl]
    exact hk.he _ h1 (by simp only[na];rw[zX h0]) f1
 ·have h1:¬((y.1.args.length:Nat):Int)=2:=by omega
  simp only[zK h1,zT,cw.cE,ap,zD,zF,zC,zI,cw.cG]
  exact k.he 111 h (bad hlen) Fr.refl
theorem S4(k:rP W QR h n0 p xr bk ids qm bm gm pl own x3 y vr (fQ bk own i y.1))(hi:0<=i/\i<=1000000000)(hr:0<=y.1.rows/\y.1.rows<=1000000000):cw.qv W QR QN QE QP (.ptr p 0) (I i) x3 (.ptr vr 0) h:=by
 simp only[cw.qv,aj,aF,k.cW,aA,zG,ay,zA,zB,ab]
 unfold fQ at k
 have e1:(⟨#[113,117,98,105,116,115]⟩:ByteArray)=aS:=rfl
 have e2:(⟨#[98,105,116,115]⟩:ByteArray)=bz:=rfl
 have e3:(⟨#[103,97,116,101]⟩:ByteArray)=aN:=rfl
 have e4:(⟨#[114,101,112,101,97,116]⟩:ByteArray)=aG:=rfl
 have e5:(⟨#[105,102]⟩:ByteArray)=cz:=rfl
 have e6:(⟨#[117,115,101]⟩:ByteArray)=bw:=rfl
 have e7:(⟨#[109,101,97,115,117,114,101]⟩:ByteArray)=aQ:=rfl
 have e8:(⟨#[114,101,115,101,116]⟩:ByteArray)=bB:=rfl
 unfold cw.si
 rw[cD,e1]
 by_cases k1:y.1.kind=aS
 ·rw[zX k1]at k
  simp only[zL k1,cw.mw,ap,zD,zF,zC,zI]
  exact Yi k
 rw[zW k1]at k
 simp only[zK k1,cw.mw,ap,zE,zD,zC,zH,cw.kJ,cD,e2]
 by_cases k2:y.1.kind=bz
 ·rw[zX k2]at k
  simp only[zL k2,cw.jf,ap,zD,zF,zC,zI]
  exact Ym k
 rw[zW k2]at k
 simp only[zK k2,cw.jf,ap,zE,zD,zC,zH,cw.jo,cD,e3]
 by_cases k3:y.1.kind=aN
 ·rw[zX k3]at k
  simp only[zL k3,cw.jN,ap,zD,zF,zC,zI]
  exact Yl k hi hr
 rw[zW k3]at k
 simp only[zK k3,cw.jN,ap,zE,zD,zC,zH,cw.iN,cD,e4]
 by_cases k4:y.1.kind=aG
 ·rw[zX k4]at k
  simp only[zL k4,cw.iq,ap,zD,zF,zC,zI]
  exact Yh k
 rw[zW k4]at k
 simp only[zK k4,cw.iq,ap,zE,zD,zC,zH,cw.j_,cD,e5]
 by_cases k5:y.1.kind=cz
 ·rw[zX k5]at k
  simp only[zL k5,cw.iV,ap,zD,zF,zC,zI]
  exact Yk k
 rw[zW k5]at k
 simp only[zK k5,cw.iV,ap,zE,zD,zC,zH,cw.jC,cD,e6]
 by_cases k6:y.1.kind=bw
 ·rw[zX k6]at k
  simp only[zL k6,cw.ir,ap,zD,zF,zC,zI]
  exact Yf k
 rw[zW k6]at k
 simp only[zK k6,cw.ir,ap,zE,zD,zC,zH,cw.jD,cD,e7]
 by_cases k7:y.1.kind=aQ
 ·rw[zX k7]at k
  simp only[zL k7,cw.jp,ap,zD,zF,zC,zI]
  exact Yj k
 rw[zW k7]at k
 simp only[zK k7,cw.jp,ap,zE,zD,zC,zH,cw.fq,cD,e8]
 by_cases k8:y.1.kind=bB
 ·rw[zX k8]at k
  simp only[zL k8,cw.ea,ap,zD,zF,zC,zI]
  exact Yg k
 rw[zW k8]at k
 simp only[zK k8,cw.ea,ap,zE,zD,zC,zH,cw.n1]
 exact Pa k Fr.refl
end
section
variable {h:AH} {M:Nat->Prop} {R:AE->AH->Prop} {n0 p:Nat} {xr x3:AV} {bk:Bk} {ids:List Nat} {qm bm gm:Nat} {pl i:Int} {own:Option Nat}
theorem TO{y:Row×AV}(pa:PA n0 h p xr bk ids qm bm gm pl)(ok:CB bk)(ho:lY ids own x3)(ha:cb Arg.enc 2 67 h y.2 y.1.args)(hl:y.1.args.length<=100000000)
  (hi:0<=i/\i<=1000000000) (hr:0<=y.1.rows/\y.1.rows<=1000000000) (hM:∀id,TW TP n0 h id->M id)
  (he:∀e h',fQ bk own i y.1=.error e->Fr h h' (fun _=>False)->R (.ret (I e)) h')
  (hk:∀b9 uy h',fQ bk own i y.1=.ok b9->PA n0 h' p xr b9 uy qm bm gm pl->(uy=ids\/∃id,uy=ids++[id])->Fr h h' (TW TP n0 h)->R (.ret (I 0)) h') :
  aB Pg 67 [.ptr p 0,.agg (ay y),I i,x3] h M R:=by
 apply cw.aO
 unfold cw.km
 refine dF (pq ha) fun vr h1 f1 gN cW=>?_
 refine S4 ⟨pa.be f1,ok,ho,cW,ha.be f1,hl,fun id hid=>.inr (zR f1.next hid),fun id hid=>(TW.back (TW.bp f1) hid).elim (fun h=>.inl (hM id h)) .inr,?_,?_⟩ hi hr
 ·intro e h' h1 f2
  simpa using he e h' h1 (f1.bQ f2)
 ·intro b9 uy h' h1 A5 h2 f2
  simpa using hk b9 uy h' h1 A5 h2 (TW.trans (TW.bp f1) f2)
end
end
section
open Go.Ab
attribute [-simp] aH az
section
variable {W:Nat->Prop} {QR QN:VK} {QE:Nat->VK} {QP:AV->AH->Prop} {h:AH} {n0 p vr:Nat} {xr x4:AV} {bk:Bk} {ids:List Nat} {qm bm gm:Nat} {pl deep behind:Int} {y:Row×AV} {own:Option Nat}
def Jt(r:Row)(deep:Int)(own:Bool):Int:=
 if 32<deep then 102
 else if decide (0<deep)&&qN r.kind then 100
 else if own&&!decide (r.kind=bw)&&!decide (r.kind=aG) then 100
 else 0
theorem S5{h':AH}(pm:PM h' bk ids qm bm gm)(cW:h.obj vr=some (aI (ay y) 6 46))(ho:lY ids own x4)(hR:QR [I (if own.isSome&&!decide (y.1.kind=bw)&&!decide (y.1.kind=aG) then 100 else 0)] h):dj.bc W QR QN QE QP x4 (.ptr vr 0) h:=by
 have e6:(⟨#[117,115,101]⟩:ByteArray)=bw:=rfl
 have e4:(⟨#[114,101,112,101,97,116]⟩:ByteArray)=aG:=rfl
 rcases ho.cases pm with⟨e1,e2,rfl⟩ |⟨k,id,d,e1,e2,oM,tG,rfl,xp,od,hp⟩
 ·subst e1
  simp only[Option.isSome_none,Bool.false_and,zE,if_false]at hR
  simp only[dj.bc,ag,qG,zH,dj.aZ,dW,zE,zS,zC,zD,dj.n9,c_,if_false,dj.n8,dj.n7,dj.n6,ap,dj.n1]
  exact hR
 ·subst e1
  simp only[Option.isSome_some,Bool.true_and]at hR
  simp only[dj.bc,ag,qG,zH,dj.aZ,dW,zS,zD,zF,zC,zI,aj,aF,cW,aA,zG,ay,zA,zB,ab,e6,dj.n9,c_,zV,dj.n8]
  by_cases k1:y.1.kind=bw
  ·simp[k1]at hR
   simpa[k1,dj.n7,dj.n6,dj.n1] using hR
  ·by_cases k2:y.1.kind=aG
   ·simp[k1,k2]at hR
    simpa[k1,k2,cW,ay,e4,dj.n7,dj.n6,dj.n1] using hR
   ·simp[k1,k2]at hR
    simpa[k1,k2,cW,ay,e4,dj.n7,dj.n6,dj.n5] using hR
theorem Pb{h':AH}(pm:PM h' bk ids qm bm gm)(cW:h.obj vr=some (aI (ay y) 6 46))(ho:lY ids own x4)(hR:QR [I (Jt y.1 deep own.isSome)] h):dj.cl W QR QN QE QP (I deep) x4 (.ptr vr 0) h:=by
 unfold Jt at hR
 have e1:(⟨#[113,117,98,105,116,115]⟩:ByteArray)=aS:=rfl
 have e2:(⟨#[98,105,116,115]⟩:ByteArray)=bz:=rfl
 have e3:(⟨#[103,97,116,101]⟩:ByteArray)=aN:=rfl
 simp only[dj.cl,gA,gt_iff_lt]
 by_cases k1:32<deep
 ·simp[k1]at hR
  simpa[k1,dj.bX,dj.n3] using hR
 simp only[k1,if_false]at hR
 simp only[zK k1,dj.bX,ap,zE,zD,zC,zH,dj.bT,gA,gt_iff_lt]
 have aaC:=S5 (W:=W) (QR:=QR) (QN:=QN) (QE:=QE) (QP:=QP) pm cW ho
 have fin:∀b,b=(decide (0<deep)&&qN y.1.kind)->dj.ba W QR QN QE QP x4 (.ptr vr 0) (B b) h:=fun b hb=>by
  rw[<-hb]at hR
  cases b with
  |true=>simpa[dj.ba,dj.n4] using hR
  |false=>
   simp only[dj.ba,ap,zE,zD,zC,zH]
   exact aaC (by simpa using hR)
 have fin:=fin _ rfl
 unfold qN at fin
 by_cases k2:0<deep
 ·by_cases k3:y.1.kind=aS<;>by_cases k4:y.1.kind=bz<;>by_cases k5:y.1.kind=aN <;>
   simp[-dj.ba,k2,k3,k4,k5]at fin <;>
   simp[-dj.ba,k2,k3,k4,k5,dj.bW,dj.bN,dj.bP,dj.bM,dj.bF,dj.br,cW,ay,e1,e2,e3]<;>exact fin
 ·simp[-dj.ba,k2]at fin
  simpa[-dj.ba,k2,dj.bW,dj.bN,dj.bP,dj.bM,dj.bF,dj.br] using fin
end
section
variable {h:AH} {M:Nat->Prop} {R:AE->AH->Prop} {n0 p:Nat} {xr x4 x0:AV} {bk:Bk} {ids:List Nat} {qm bm gm:Nat} {pl deep behind:Int} {own:Option Nat}
theorem Su{y:Row×AV}(pm:PM h bk ids qm bm gm)(ha:cb Arg.enc 2 67 h y.2 y.1.args)(ho:lY ids own x4)
  (hR:∀h',Fr h h' (fun _=>False)->R (.ret (I (im y.1 behind deep own.isSome))) h'):aB Pg 66 [x0,.agg (ay y),I behind,I deep,x4] h M R:=by
 apply dj.aO
 unfold dj.ea
 refine dF (pq ha) fun vr h1 f1 gN cW=>?_
 have pm1:=pm.be f1
 simp only[dj.dV,aj,aF,cW,aA,zG,ay,zA,zB,ab]
 refine⟨fun _=>False,fun _ h=>h.elim,NP ?_⟩
 have hb:im y.1 behind deep own.isSome=if !mQ y.1.kind||(!ml y.1.kind&&y.1.rows != 0)||decide (y.1.rows<0)||decide (behind<y.1.rows) then 100 else Jt y.1 deep own.isSome:=rfl
 have hR:=hR h1 f1
 rw[hb]at hR
 have fin:∀b,b=(!mQ y.1.kind||(!ml y.1.kind&&y.1.rows != 0)||decide (y.1.rows<0)||decide (behind<y.1.rows))->dj.cq (fun id=>M id\/h.next<=id) (aK Pg [.tmp 10] R) (aK Pg [.tmp 10] R) (fun _ _ _=>False) (fun v h=>R (.b6 v) h) (I deep) x4 (.ptr vr 0) (B b) h1:=fun b hb=>by
  rw[<-hb]at hR
  cases b with
  |true=>simpa[dj.cq,dj.n2] using hR
  |false=>
   simp only[dj.cq,ap,zE,zD,zC,zH]
   exact Pb pm1 cW ho (by simpa using hR)
 have fin:=fin _ rfl
 cases kn:mQ y.1.kind with
 |false=>
  simp[-dj.cq,kn]at fin
  simpa[-dj.cq,kn,dj.dG,dj.cU,dj.cX,dj.cV,dj.cE,dj.cG,dj.cN,dj.cL] using fin
 |true=>
  simp only[d_,zS,dj.dG,dW,zE,zT,zD,zF,zC,zI,aj,aF,cW,aA,zG,ay,zA,zB,ab]
  refine⟨fun _=>False,fun _ h=>h.elim,DW ?_⟩
  cases bo:ml y.1.kind<;>cases k0:(y.1.rows != 0)<;>by_cases k1:y.1.rows<0<;>by_cases k2:behind<y.1.rows <;>
   simp[-dj.cq,kn,bo,k0,k1,k2]at fin <;>
   simp[-dj.cq,cW,ay,k0,k1,k2,dj.cU,dj.cX,dj.cV,dj.cE,dj.cG,dj.cN,dj.cL]<;>exact fin
end
end
section
open Go.Ab
attribute [-simp] aH az
def sg(rs:List (Row×AV))(a n:Nat):List Row:=((rs.drop a).take n).map (·.1)
theorem IK{rs:List (Row×AV)}{a:Nat}:sg rs a 0=[]:=rfl
theorem IJ{rs:List (Row×AV)}{a n:Nat}{y:Row×AV}(h:rs[a]?=some y):sg rs a (n+1)=y.1::sg rs (a+1) n:=by
 obtain⟨h1,h2⟩:=zM.1 h
 unfold sg
 rw[List.drop_eq_getElem_cons h1,h2,List.take_succ_cons,List.map_cons]
theorem oU{rs:List (Row×AV)}{a n k:Nat}(h:k<=n):(sg rs a n).take k=sg rs a k:=by
 unfold sg
 rw[<-List.map_take,List.take_take,Nat.min_eq_left h]
theorem oV{rs:List (Row×AV)}{a n k:Nat}:(sg rs a n).drop k=sg rs (a+k) (n-k):=by
 unfold sg
 rw[<-List.map_drop,List.drop_take,List.drop_drop]
theorem AP{rs:List (Row×AV)}{a n:Nat}(h:a+n<=rs.length):(sg rs a n).length=n:=by
 unfold sg
 rw[zZ,yA,List.length_drop];omega
inductive qB:List Row->Prop
 |nil:qB []
 |cons {r:Row} {l:List Row} (h0:0<=r.rows) (h1:r.rows<=l.length) (h2:r.kind=aG->0<=r.num) (h3:qB (l.take r.rows.toNat)) (h4:qB (l.drop r.rows.toNat)):qB (r::l)
theorem qB.inv{r:Row}{l:List Row}(h:qB (r::l)):(0<=r.rows/\r.rows<=l.length)/\(r.kind=aG->0<=r.num)/\qB (l.take r.rows.toNat)/\qB (l.drop r.rows.toNat):=by
 cases h with |cons h0 h1 h2 h3 h4=>exact⟨⟨h0,h1⟩,h2,h3,h4⟩
def kC(ds:List dH)(r:Row)(c:Int):Int:=if r.kind=aG then(if 0<c then min r.num 4097*c else c) else match gE ds r.name with |some d=>d.ops |none=>1
theorem countP_nil{ds:List dH}{n:Int}:countP ds [] n=n:=by rw[countP]
theorem countP_cons{ds:List dH}{n:Int}{r:Row}{l:List Row}:countP ds (r::l) n=countP ds (l.drop r.rows.toNat) (min (n+kC ds r (countP ds (l.take r.rows.toNat) 0)) 4097):=by rw[countP];rfl
theorem K0{a b:Int}(h1:0<=a)(h2:a<=4097)(h3:0<=b)(h4:b<=4097):0<=a*b/\a*b<=16785409:=⟨Int.mul_nonneg h1 h3,Int.le_trans (Int.mul_le_mul h2 h4 h3 (by omega)) (by decide)⟩
theorem DQ{ds:List dH}{r:Row}{c:Int}(hd:∀d∈ds,0<=d.ops/\d.ops<=4097)(hc:0<=c/\c<=4097)(hr:r.kind=aG->0<=r.num):0<=kC ds r c/\kC ds r c<=16785409:=by
 unfold kC
 by_cases k:r.kind=aG
 ·rw[zX k]
  have hn:=hr k
  split
  ·have:=K0 (a:=min r.num 4097) (b:=c) (by omega) (by omega) hc.1 hc.2
   exact this
  ·omega
 ·rw[zW k]
  split
  ·rename_i d sD
   have:=hd d (List.mem_of_find?_eq_some sD)
   omega
  ·omega
theorem xh{ds:List dH}(hd:∀d∈ds,0<=d.ops/\d.ops<=4097){l:List Row}(hs:qB l):∀n:Int,0<=n/\n<=4097->0<=countP ds l n/\countP ds l n<=4097:=by
 induction hs with
 |nil=>intro n h;rw[countP_nil];exact h
 |cons h0 h1 h2 h3 h4 UP UO=>
  intro n hn
  rw[countP_cons]
  have:=DQ hd (UP 0 (by omega)) h2
  exact UO _ (by omega)
structure RT (h:AH) (xr:AV) (rs:List (Row×AV)):Prop where
 r:cb ay 6 46 h xr rs
 a:∀y∈rs,cb Arg.enc 2 67 h y.2 y.1.args/\y.1.args.length<=100000000
 n:rs.length<=100000000
theorem RT.be{h h':AH}{xr:AV}{rs:List (Row×AV)}(a:RT h xr rs)(f:Fr h h' fun _=>False):RT h' xr rs:=⟨a.r.be f,fun y hy=>⟨(a.a y hy).1.be f,(a.a y hy).2⟩,a.n⟩
theorem RT.wX{h h':AH}{xr:AV}{rs:List (Row×AV)}{n0:Nat}(a:RT h xr rs)(f:Fr h h' (TW TP n0 h)):RT h' xr rs:=⟨a.r.wX f rfl,fun y hy=>⟨(a.a y hy).1.wX f rfl,(a.a y hy).2⟩,a.n⟩
theorem RT.one{h:AH}{xr:AV}{rs:List (Row×AV)}(a:RT h xr rs){y:Row×AV}{i:Nat}(hy:rs[i]?=some y):(ay y).all cF=true:=pq (a.a y (zP hy)).1
section
variable {M:Nat->Prop} {R:AE->AH->Prop} {p:Nat} {xr:AV} {bk:Bk} {ids:List Nat} {qm bm gm:Nat} {pl:Int} {rs:List (Row×AV)}
structure MV (h:AH) (p:Nat) (xr:AV) (rs:List (Row×AV)) (bk:Bk) (ids:List Nat) (qm bm gm:Nat):Prop where
 p:∃cs,h.obj p=some (aI cs 9 97)/\cs[0]?=some xr/\cs[3]?=some (.mp gm)
 r:RT h xr rs
 m:PM h bk ids qm bm gm
theorem MV.be{h h':AH}(a:MV h p xr rs bk ids qm bm gm)(f:Fr h h' fun _=>False):MV h' p xr rs bk ids qm bm gm:=by
 obtain⟨cs,h1,h2⟩:=a.p
 exact⟨⟨cs,f.bI h1,h2⟩,a.r.be f,a.m.be f⟩
theorem OQ(hd:∀d∈bk.ds,0<=d.ops/\d.ops<=4097)(n:Nat):∀{h:AH}{M:Nat->Prop}{R:AE->AH->Prop}{a:Nat}(_:MV h p xr rs bk ids qm bm gm)(_:a+n<=rs.length)(_:qB (sg rs a n))
  (_:∀h',Fr h h' (fun _=>False)->R (.ret (I (countP bk.ds (sg rs a n) 0))) h'),aB Pg 68 [.ptr p 0,I a,I (a+n)] h M R:=by
 induction n using Nat.strongRecOn with
 |ind n ih=>
 intro h M R a hc hn hs hR
 apply jW.aO
 unfold jW.bT jW.bW jW.bN jW.bP
 have hlen:=hc.r.n
 refine cJ (ι:=Nat×Int) (fun i v h'=>v=[.ptr p 0,I (a+n),I i.2,I (a+(n-i.1:Nat):Int)]/\i.1<=n/\(0<=i.2/\i.2<=4097)/\qB (sg rs (a+(n-i.1)) i.1)/\countP bk.ds (sg rs (a+(n-i.1)) i.1) i.2=countP bk.ds (sg rs a n) 0/\Fr h h' (fun _=>False)) (fun i=>i.1) (n,0) ⟨by simp,zU _,by omega,by simpa using hs,by simp,Fr.refl⟩ ?_
 rintro K ⟨m,acc⟩ v h1 ⟨rfl,hm,sW,n_,cm,f1⟩ step
 simp only at hm sW n_ cm
 have QD:=hc.be f1
 unfold jW.cT
 simp only[zN,zO,jW.bM,bu]
 cases m with
 |zero=>
  have e1:decide ((a:Int)+(n-0:Nat)<a+n)=false:=by simp
  rw[IK,countP_nil]at cm
  simp only[e1,jW.bF,ap,zE,zD,zC,zH,zV,jW.n1,zN]
  rw[cm]
  simpa using hR h1 f1
 |succ m=>
  obtain⟨j,hj⟩:∃j,j=a+(n-(m+1)):=⟨_,rfl⟩
  have ej:(a:Int)+(n-(m+1):Nat)=(j:Int):=by omega
  have e1:decide ((j:Int)<a+n)=true:=by simp;omega
  rw[<-hj]at n_ cm
  obtain⟨y,hy⟩:∃y,rs[j]?=some y:=⟨rs[j]'(by omega),zJ _⟩
  rw[IJ hy]at n_ cm
  rw[countP_cons]at cm
  obtain⟨⟨b0,b1⟩,b2,b3,b4⟩:=n_.inv
  rw[AP (by omega)]at b1
  obtain⟨k,hk⟩:∃k:Nat,y.1.rows=k:=⟨y.1.rows.toNat,by omega⟩
  have rD:k<=m:=by omega
  rw[hk,zY,oU rD]at b3
  rw[hk,zY,oV]at b4
  rw[hk,zY,oU rD,oV]at cm
  obtain⟨cs,hp,c0,c3⟩:=QD.p
  simp only[e1,ej,jW.bF,ap,zD,zF,zC,zI,jW.br,aL,aj,aF,hp,aA,zG,c0,ab]
  refine iK QD.r.r fX (QD.r.one hy) hy rfl rfl (fun id hid=>.inr (zR f1.next hid)) fun vr h2 f2 _ cW=>?_
  have bY:=f1.bQ f2
  have vu:=QD.be f2
  have VL:=xh hd b3 0 (by omega)
  have Qv:=DQ (ds:=bk.ds) (r:=y.1) (c:=countP bk.ds (sg rs (j+1) k) 0) hd VL b2
  have w1:∀x:Int,0<=x/\x<=1000000000->IntKind.i64.wrap x=x:=fun x hx=>aX (by omega) (by omega)
  have Z0:∀x:Int,(if (4097:Int)<x then 4097 else x)=min x 4097:=fun x=>by split<;>omega
  have last:∀h3,Fr h h3 (fun _=>False)->jW.n3 (fun id=>M id\/h.next<=id) (aK Pg [.tmp 6] R) K (fun(i:Nat) (vs:List AV) (h:AH)=>if i=0 then jW.n1 (fun id=>M id\/h.next<=id) (aK Pg [.tmp 6] R) (aK Pg [.tmp 6] R) (fun _ _ _=>False) (fun v h=>R (.b6 v) h) (vs.getD 0 aa) h else False) (fun v h=>R (.b6 v) h) (.ptr p 0) (I (a+n)) (I acc) (I j) (I (kC bk.ds y.1 (countP bk.ds (sg rs (j+1) k) 0))) h3:=fun h3 f3=>by
   obtain⟨cs3,Fx,c30,c33⟩:=(hc.be f3).p
   simp only[jW.n3,bg,w1 (acc+kC bk.ds y.1 (countP bk.ds (sg rs (j+1) k) 0)) (by omega),vi,zH,zV,Z0,jW.n2,aL,aj,aF,Fx,aA,zG,c30,ab]
   refine jI (k:=4) (hc.be f3).r.r fX hy (by omega) rfl fun _=>?_
   rw[hk]
   simp only[bg,w1 (1+(k:Int)) (by omega),w1 ((j:Int)+(1+k)) (by omega)]
   refine step (m-k,min (acc+kC bk.ds y.1 (countP bk.ds (sg rs (j+1) k) 0)) 4097) _ h3 (by simp only;omega) ⟨?_,by simp only;omega,?_,?_,?_,f3⟩
   ·have e9:(j:Int)+(1+k)=a+(n-(m-k):Nat):=by omega
    rw[<-e9]
   ·simp only;omega
   ·have e8:j+1+k=a+(n-(m-k)):=by omega
    rw[e8]at b4;exact b4
   ·have e8:j+1+k=a+(n-(m-k)):=by omega
    rw[e8]at cm
    exact cm
  have e4:(⟨#[114,101,112,101,97,116]⟩:ByteArray)=aG:=rfl
  simp only[jW.ba,jW.bc,aj,aF,cW,aA,zG,ay,zA,zB,ab,cD,e4]
  by_cases k1:y.1.kind=aG
  ·have qo:=b2 k1
   simp only[zL k1,jW.aZ,ap,zD,zF,zC,zI,jW.n6,bg,aj,aF,cW,aA,zG,ay,zA,zB,ab,hk,w1 ((j:Int)+1) (by omega),w1 ((j:Int)+1+k) (by omega)]
   refine⟨fun _=>False,fun _ h=>h.elim,ih k (by omega) (a:=j+1) vu (by omega) b3 fun h3 f3=>?_⟩
   have l3:=last h3 (bY.bQ f3)
   unfold kC at l3
   rw[zX k1]at l3
   simp only[jW.n5,gA,gt_iff_lt]
   by_cases k2:0<countP bk.ds (sg rs (j+1) k) 0
   ·rw[zX k2]at l3
    have Dk:=K0 (a:=min y.1.num 4097) (by omega) (by omega) VL.1 VL.2
    simp only[zL k2,jW.n4,ap,zD,zF,zC,zI,aj,aF,f3.bI cW,aA,zG,ay,zA,zB,ab,vi,zH,zV,Z0,EX,w1 (min y.1.num 4097*countP bk.ds (sg rs (j+1) k) 0) (by omega)]
    exact l3
   ·rw[zW k2]at l3
    simp only[zK k2,jW.n4,ap,zE,zD,zC,zH]
    exact l3
  ·have l2:=last h2 bY
   unfold kC at l2
   rw[zW k1]at l2
   obtain⟨cs2,Fy,c20,c23⟩:=vu.p
   simp only[zK k1,jW.aZ,ap,zE,zD,zC,zH,jW.n9,aL,aj,aF,Fy,cW,aA,zG,c23,ay,zA,zB,ab]
   refine gY (enc:=Sb) jr z87 vu.m.g fun _=>?_
   rcases nl (n:=y.1.name) vu.m.len with⟨e1,e2⟩ |⟨kk,d,id,e1,e2,oM,tG⟩
   ·rw[e2]at l2
    rw[e1]
    simp only[fL,zV,c9,zA,zB,ab,jW.n8,jW.n7,ap,zE,zD,zC,zH]
    exact l2
   ·rw[e2]at l2
    rw[e1]
    obtain⟨xp,od,_⟩:=vu.m.d kk d id oM tG
    simp only[fL,zV,c9,zA,zB,ab,jW.n8,jW.n7,ap,zD,zF,zC,zI,aL,aj,aF,od,aA,zG]
    exact l2
end
end
section
open Go.Ab
def core(d:dH):ByteArray×List ByteArray×Int×Int:=(d.name,d.params,d.from_,d.J7)
structure l6 (bk:Bk):Prop where
 ok:CB bk
 nd:(bk.ds.map (·.name)).Nodup
def fP(bk b9:Bk):Prop:=∃l,b9.ds.map core=bk.ds.map core++l
theorem fP.refl{bk:Bk}:fP bk bk:=⟨[],by simp⟩
theorem fP.trans{a b c:Bk}(h1:fP a b)(h2:fP b c):fP a c:=by
 obtain⟨l1,e1⟩:=h1
 obtain⟨l2,e2⟩:=h2
 exact⟨l1++l2,by rw[e2,e1,List.append_assoc]⟩
theorem fP.at_{a b:Bk}(h:fP a b){k:Nat}{d:dH}(hd:a.ds[k]?=some d):∃d',b.ds[k]?=some d'/\core d'=core d:=by
 obtain⟨l,e⟩:=h
 have h1:(b.ds.map core)[k]?=some (core d):=by
  rw[e,List.getElem?_append_left (by rw[zZ];exact(zM.1 hd).1),List.getElem?_map,hd];rfl
 rw[List.getElem?_map]at h1
 cases hb:b.ds[k]? with
 |none=>rw[hb]at h1;cases h1
 |some d'=>rw[hb]at h1;exact⟨d',rfl,Option.some.inj h1⟩
theorem Ba{β:Type}{f:dH->dH}{g:dH->β}(hf:∀d,g (f d)=g d)(l:List dH)(k:Nat):(l.modify k f).map g=l.map g:=by
 induction l generalizing k with
 |nil=>simp
 |cons d l ih=>cases k with
  |zero=>simp[hf]
  |succ k=>simp[ih]
theorem mem_modify{f:dH->dH}{l:List dH}{k:Nat}{d:dH}(h:d∈l.modify k f):d∈l\/∃e∈l,d=f e:=by
 obtain⟨i,hi⟩:=List.mem_iff_getElem?.1 h
 rw[getElem?_modify']at hi
 by_cases hk:k=i
 ·rw[zX hk]at hi
  cases he:l[i]? with
  |none=>rw[he]at hi;cases hi
  |some e=>rw[he]at hi;exact .inr ⟨e,zP he,(Option.some.inj hi).symm⟩
 ·rw[zW hk]at hi
  exact .inl (zP hi)
theorem l6.modify{bk:Bk}(a:l6 bk){k:Nat}{f:dH->dH}(hf:∀d,core (f d)=core d)(hd:∀d∈bk.ds,0<=(f d).depth/\(f d).depth<=100/\0<=(f d).ops/\(f d).ops<=4097):l6 { bk with ds:=bk.ds.modify k f }/\fP bk { bk with ds:=bk.ds.modify k f }:=by
 have hn:∀d,(f d).name=d.name:=fun d=>congrArg (·.1) (hf d)
 have hp:∀d,(f d).params=d.params:=fun d=>congrArg (·.2.1) (hf d)
 refine⟨⟨⟨a.ok.tq,a.ok.tb,a.ok.sq,a.ok.sb,fun d h=>?_⟩,?_⟩,[],?_⟩
 ·rcases mem_modify h with h1 |⟨e,h1,rfl⟩
  ·exact a.ok.ds d h1
  ·rw[hp];exact⟨(a.ok.ds e h1).1,hd e h1⟩
 ·simp only
  rw[Ba hn];exact a.nd
 ·simp only[List.append_nil]
  rw[Ba hf]
theorem Np{l:List fJ}{n:ByteArray}{s:Int}(ht:0<=aU l)(h:∀r∈l,1<=r.size/\0<=r.from_/\r.from_+r.size<=aU l)(hs:1<=s):∀r∈l++[⟨n,aU l,s⟩],1<=r.size/\0<=r.from_/\r.from_+r.size<=aU (l++[⟨n,aU l,s⟩]):=by
 intro r hr
 rw[qD]
 rcases List.mem_append.1 hr with hr |hr
 ·have:=h r hr;simp only;omega
 ·have:=List.mem_singleton.1 hr
  subst this
  simp only;omega
theorem Gi{bk:Bk}{l l':List fJ}{r:Row}(ht:0<=aU l/\aU l<=64)(h:∀r∈l,1<=r.size/\0<=r.from_/\r.from_+r.size<=aU l)(hd:f_ bk l 64 r=.ok l'):(0<=aU l'/\aU l'<=64)/\∀r∈l',1<=r.size/\0<=r.from_/\r.from_+r.size<=aU l':=by
 unfold f_ at hd
 split at hd
 ·cases hd
 split at hd
 ·cases hd
 split at hd
 ·cases hd
 cases hd
 refine⟨?_,Np ht.1 h (by omega)⟩
 rw[qD];simp only;omega
theorem uH{l:List dH}{n:ByteArray}(h:gE l n=none):∀d∈l,d.name≠n:=fun d hd he=>by
 unfold gE at h
 rw[List.find?_eq_none]at h
 exact h d hd (by simpa using he)
theorem CK{bk:Bk}{n:ByteArray}(h:gV bk n=false):dC bk.qs n=none/\dC bk.bs n=none/\gE bk.ds n=none/\¬0<dE n:=by
 unfold gV at h
 simp only[Bool.or_eq_false_iff,decide_eq_false_iff_not]at h
 refine⟨?_,?_,?_,h.2⟩
 ·simpa using h.1.1.1
 ·simpa using h.1.1.2
 ·simpa using h.1.2
theorem Ie{bk b9:Bk}{r:Row}{i:Int}(a:l6 bk)(hl:r.args.length<=100000000)(h:uJ bk r i=.ok b9):l6 b9/\fP bk b9/\b9={ bk with ds:=bk.ds++[⟨r.name,r.args.map (·.name),i+1,i+1+r.rows,1,0,false⟩] }/\gV bk r.name=false:=by
 unfold uJ at h
 split at h
 ·cases h
 rename_i ht
 split at h
 ·cases h
 split at h
 ·cases h
 split at h
 ·cases h
 cases h
 have ht:gV bk r.name=false:=by simpa using ht
 refine⟨⟨⟨a.ok.tq,a.ok.tb,a.ok.sq,a.ok.sb,fun d hd=>?_⟩,?_⟩,⟨_,List.map_append⟩,rfl,ht⟩
 ·rcases List.mem_append.1 hd with hd |hd
  ·exact a.ok.ds d hd
  ·have:=List.mem_singleton.1 hd
   subst this
   refine⟨by simpa using hl,?_⟩
   simp only;omega
 ·simp only[List.map_append,List.map_cons,List.map_nil]
  rw[List.nodup_append]
  refine⟨a.nd,by simp,fun x hx y hy=>?_⟩
  have hy:=List.mem_singleton.1 hy
  subst hy
  obtain⟨d,hd,rfl⟩:=List.mem_map.1 hx
  exact uH (CK ht).2.2.1 d hd
theorem Ro{bk b9:Bk}{r:Row}{own:Option Nat}(a:l6 bk)(h:lG bk own r=.ok b9):l6 b9/\fP bk b9/\b9.ds.length=bk.ds.length:=by
 unfold lG at h
 split at h
 ·cases h
 split at h
 ·cases h
 split at h
 ·cases h
 split at h
 ·cases h
 split at h
 ·cases h
 split at h
 ·cases h
 rename_i hd
 cases h
 unfold rM
 cases own with
 |none=>exact⟨a,fP.refl,rfl⟩
 |some k=>
  simp only[Option.isSome_some,zH]at hd
  have:=a.modify (k:=k) (f:=fun d=>{ d with depth:=max d.depth ((l7 bk r.name).2+1) }) (fun _=>rfl) (fun d h=>by have:=a.ok.ds d h;simp only;omega)
  exact⟨this.1,this.2,by simp⟩
theorem xH{bk b9:Bk}{own:Option Nat}{i:Int}{r:Row}(a:l6 bk)(hl:r.args.length<=100000000)(h:fQ bk own i r=.ok b9):l6 b9/\fP bk b9/\(r.kind=aG->0<=r.num)/\(r.kind≠aN->b9.ds.length=bk.ds.length) /\
  (r.kind=aN->b9={ bk with ds:=bk.ds++[⟨r.name,r.args.map (·.name),i+1,i+1+r.rows,1,0,false⟩] }):=by
 unfold fQ at h
 have n1:aS≠aG:=by decide
 have n2:bz≠aG:=by decide
 have n3:aN≠aG:=by decide
 have m1:aS≠aN:=by decide
 have m2:bz≠aN:=by decide
 have same:∀e,ot e bk=.ok b9->b9=bk:=fun e h=>by
  unfold ot at h
  split at h<;>cases h
  rfl
 by_cases k1:r.kind=aS
 ·rw[zX k1]at h
  cases hd:f_ bk bk.qs 64 r with
  |error e=>rw[hd]at h;cases h
  |ok l=>
   rw[hd]at h
   cases h
   obtain⟨h1,h2⟩:=Gi a.ok.tq a.ok.sq hd
   exact⟨⟨⟨h1,a.ok.tb,h2,a.ok.sb,a.ok.ds⟩,a.nd⟩,⟨[],by simp⟩,fun e=>absurd (k1.symm.trans e) n1,fun _=>rfl,fun e=>absurd (k1.symm.trans e) m1⟩
 rw[zW k1]at h
 by_cases k2:r.kind=bz
 ·rw[zX k2]at h
  cases hd:f_ bk bk.bs 64 r with
  |error e=>rw[hd]at h;cases h
  |ok l=>
   rw[hd]at h
   cases h
   obtain⟨h1,h2⟩:=Gi a.ok.tb a.ok.sb hd
   exact⟨⟨⟨a.ok.tq,h1,a.ok.sq,h2,a.ok.ds⟩,a.nd⟩,⟨[],by simp⟩,fun e=>absurd (k2.symm.trans e) n2,fun _=>rfl,fun e=>absurd (k2.symm.trans e) m2⟩
 rw[zW k2]at h
 by_cases k3:r.kind=aN
 ·rw[zX k3]at h
  obtain⟨h1,h2,h3,_⟩:=Ie a hl h
  exact⟨h1,h2,fun e=>absurd (k3.symm.trans e) n3,fun e=>absurd k3 e,fun _=>h3⟩
 rw[zW k3]at h
 have fin:b9=bk->(r.kind=aG->0<=r.num)->l6 b9/\fP bk b9/\(r.kind=aG->0<=r.num)/\(r.kind≠aN->b9.ds.length=bk.ds.length)/\(r.kind=aN->b9={ bk with ds:=bk.ds++[⟨r.name,r.args.map (·.name),i+1,i+1+r.rows,1,0,false⟩] }):=fun e hn=>by
  subst e
  exact⟨a,fP.refl,hn,fun _=>rfl,fun e=>absurd e k3⟩
 by_cases k4:r.kind=aG
 ·rw[zX k4]at h
  split at h
  ·cases h
  ·cases h
   exact fin rfl (fun _=>by omega)
 rw[zW k4]at h
 have Le:r.kind=aG->0<=r.num:=fun e=>absurd e k4
 by_cases k5:r.kind=cz
 ·rw[zX k5]at h
  unfold sx at h
  split at h
  ·cases h
  ·split at h
   ·cases h
   ·cases h
    exact fin rfl Le
 rw[zW k5]at h
 by_cases k6:r.kind=bw
 ·rw[zX k6]at h
  obtain⟨h1,h2,h3⟩:=Ro a h
  exact⟨h1,h2,Le,fun _=>h3,fun e=>absurd e k3⟩
 rw[zW k6]at h
 by_cases k7:r.kind=aQ
 ·rw[zX k7]at h
  unfold na at h
  split at h
  ·split at h
   ·cases h
   ·exact fin (same _ h) Le
  ·cases h
 rw[zW k7]at h
 by_cases k8:r.kind=bB
 ·rw[zX k8]at h
  unfold re at h
  split at h
  ·exact fin (same _ h) Le
  ·cases h
 rw[zW k8]at h
 cases h
 exact fin rfl Le
theorem Cm{r:Row}{behind deep:Int}{own:Bool}(h:im r behind deep own=0):mQ r.kind=true/\(ml r.kind=true\/r.rows=0)/\0<=r.rows/\r.rows<=behind/\deep<=32/\(0<deep->qN r.kind=false)/\(own=true->r.kind=bw\/r.kind=aG):=by
 unfold im at h
 split at h
 ·cases h
 rename_i h1
 split at h
 ·cases h
 rename_i h2
 split at h
 ·cases h
 rename_i h3
 split at h
 ·cases h
 rename_i h4
 simp at h1 h3 h4
 refine⟨h1.1.1.1,?_,h1.1.2,h1.2,by omega,h3,fun ho=>?_⟩
 ·cases hb:ml r.kind with
  |true=>exact .inl rfl
  |false=>exact .inr (h1.1.1.2 hb)
 ·by_cases hu:r.kind=bw
  ·exact .inl hu
  ·exact .inr (h4 ho hu)
theorem jP{deep:Nat}{own:Option Nat}{i:Nat}{bk:Bk}:dN deep own i [] bk=.ok bk:=by rw[dN]
theorem kQ{deep:Nat}{own:Option Nat}{i:Nat}{r:Row}{rest:List Row}{bk:Bk}:dN deep own i (r::rest) bk =
  if im r rest.length deep own.isSome≠0 then .error (r.place,im r rest.length deep own.isSome)
  else match fQ bk own i r with
   |.error e=>.error (r.place,e)
   |.ok qA=>match dN (deep+1) (if r.kind=aN then some bk.ds.length else own) (i+1) (rest.take r.rows.toNat) qA with
    |.error e=>.error e
    |.ok ig=>dN deep own (i+1+r.rows.toNat) (rest.drop r.rows.toNat) (if r.kind=aN then{ ig with ds:=lJ ig.ds bk.ds.length (countP ig.ds (rest.take r.rows.toNat) 0) } else ig):=by
 conv=>lhs;rw[dN]
 all_goals rfl
theorem DS{bk:Bk}(a:l6 bk){k:Nat}{l:List Row}(hs:qB l):l6 { bk with ds:=lJ bk.ds k (countP bk.ds l 0) }/\fP bk { bk with ds:=lJ bk.ds k (countP bk.ds l 0) }:=by
 have hb:=xh (ds:=bk.ds) (fun d hd=>(a.ok.ds d hd).2.2.2) hs 0 (by omega)
 exact a.modify (fun _=>rfl) (fun d hd=>by have:=a.ok.ds d hd;simp only;omega)
theorem Af(n:Nat):∀{deep:Nat}{own:Option Nat}{i:Nat}{rows:List Row}{bk b9:Bk}(_:rows.length=n)(_:∀r∈rows,r.args.length<=100000000)(_:l6 bk)(_:dN deep own i rows bk=.ok b9),l6 b9/\fP bk b9/\qB rows:=by
 induction n using Nat.strongRecOn with
 |ind n ih=>
 intro deep own i rows bk b9 hn hl a h
 cases rows with
 |nil=>rw[jP]at h;cases h;exact⟨a,fP.refl,.nil⟩
 |cons r rest=>
  rw[kQ]at h
  split at h
  ·cases h
  rename_i hf
  obtain⟨_,_,f1,f2,_⟩:=Cm (Classical.not_not.1 hf)
  split at h
  ·cases h
  rename_i qA h1
  split at h
  ·cases h
  rename_i ig h2
  obtain⟨a1,x1,g1,g2,g3⟩:=xH a (hl r (List.mem_cons_self ..)) h1
  rw[List.length_cons]at hn
  obtain⟨a2,x2,s2⟩:=ih _ (by rw[yA];omega) rfl (fun r' hr=>hl r' (List.mem_cons_of_mem _ (List.mem_of_mem_take hr))) a1 h2
  have key:∀nJ,l6 nJ->fP ig nJ->dN deep own (i+1+r.rows.toNat) (rest.drop r.rows.toNat) nJ=.ok b9->l6 b9/\fP bk b9/\qB (r::rest):=fun nJ a3 x3 h3=>by
   obtain⟨a4,x4,s4⟩:=ih _ (by rw[List.length_drop];omega) rfl (fun r' hr=>hl r' (List.mem_cons_of_mem _ (List.mem_of_mem_drop hr))) a3 h3
   exact⟨a4,x1.trans (x2.trans (x3.trans x4)),.cons f1 f2 g1 s2 s4⟩
  by_cases k:r.kind=aN
  ·rw[zX k]at h
   obtain⟨a3,x3⟩:=DS a2 (k:=bk.ds.length) s2
   exact key _ a3 x3 h
  ·rw[zW k]at h
   exact key _ a2 fP.refl h
end
section
open Go.Ab
attribute [-simp] aH az
theorem DO{f:dH->dH}(h1:∀d,(f d).name=d.name)(h2:∀d,(f d).ops=d.ops)(n:ByteArray):∀(l:List dH)(k:Nat),(gE (l.modify k f) n).map (·.ops)=(gE l n).map (·.ops)
 |[],k=>by simp
 |d::l,0=>by
  unfold gE
  simp only[List.modify_zero_cons,List.find?_cons,h1]
  cases decide (d.name=n)
  ·rfl
  ·simp[h2]
 |d::l,k+1=>by
  have ih:=DO h1 h2 n l k
  unfold gE at ih ⊢
  simp only[List.modify_succ_cons,List.find?_cons]
  cases decide (d.name=n)
  ·exact ih
  ·rfl
theorem D4{f:dH->dH}(h1:∀d,(f d).name=d.name)(h2:∀d,(f d).ops=d.ops){ds:List dH}{k:Nat}{l:List Row}(hs:qB l):∀n,countP (ds.modify k f) l n=countP ds l n:=by
 induction hs with
 |nil=>intro n;rw[countP_nil,countP_nil]
 |cons h0 dP eB h3 h4 UP UO=>
  rename_i r l
  intro n
  rw[countP_cons,countP_cons,UP,UO]
  have g:∀o o':Option dH,o.map (·.ops)=o'.map (·.ops)->(match o with |some d=>d.ops |none=>1)=(match o' with |some d=>d.ops |none=>(1:Int)):=by
   rintro(_ |a) (_ |b) h
   ·rfl
   ·cases h
   ·cases h
   ·exact Option.some.inj h
  have e:∀c,kC (ds.modify k f) r c=kC ds r c:=fun c=>by
   unfold kC
   by_cases kr:r.kind=aG
   ·rw[zX kr,zX kr]
   ·rw[zW kr,zW kr]
    exact g _ _ (DO h1 h2 r.name ds k)
  rw[e]
theorem EH{ds:List dH}{k:Nat}{n:Int}:(ds.modify k (fun d=>{ d with whole:=true })).modify k (fun d=>{ d with ops:=n })=lJ ds k n:=by
 unfold lJ
 apply List.ext_getElem?
 intro i
 simp only[getElem?_modify']
 by_cases h:k=i
 ·simp only[zX h,Option.map_map];rfl
 ·simp only[zW h]
theorem Xt{l:List dH}(h:(l.map (·.name)).Nodup){i j:Nat}{a b:dH}(hi:l[i]?=some a)(hj:l[j]?=some b)(he:a.name=b.name):i=j:=by
 obtain⟨h1,h2⟩:=zM.1 hi
 obtain⟨h3,h4⟩:=zM.1 hj
 have hp:=List.pairwise_iff_getElem.1 h
 have g1:(l.map (·.name))[i]'(by simpa using h1)=a.name:=by simp[h2]
 have g2:(l.map (·.name))[j]'(by simpa using h3)=b.name:=by simp[h4]
 rcases Nat.lt_trichotomy i j with aJ |oN |aJ
 ·exact absurd (g1.trans (he.trans g2.symm)) (hp i j (by simpa using h1) (by simpa using h3) aJ)
 ·exact oN
 ·exact absurd (g2.trans (he.symm.trans g1.symm)) (hp j i (by simpa using h3) (by simpa using h1) aJ)
section
variable {h:AH} {n0 p:Nat} {xr x4:AV} {bk:Bk} {ids:List Nat} {qm bm gm:Nat} {pl:Int} {rs:List (Row×AV)} {own:Option Nat}
theorem Cc(pm:PM h bk ids qm bm gm)(a:l6 bk){k:Nat}{d:dH}(hd:bk.ds[k]?=some d):∃id,ids[k]?=some id/\ee d.name (kT bk.ds ids)=some (.ptr id 0)/\sS h id d:=by
 rcases nl (n:=d.name) pm.len with⟨_,e2⟩ |⟨k',d',id,e1,e2,oM,tG⟩
 ·exact absurd rfl (uH e2 d (zP hd))
 ·have hn:d'.name=d.name:=by
   have:=List.find?_some e2
   simpa using this
  have:=Xt a.nd hd oM hn.symm
  subst this
  rw[hd]at oM;cases oM
  exact⟨id,tG,e1,pm.d _ _ _ hd tG⟩
theorem PA.Xn(pa:PA n0 h p xr bk ids qm bm gm pl){x:Int}:PA n0 (h.put p 8 [I x]) p xr bk ids qm bm gm x/\Fr h (h.put p 8 [I x]) (TW TP n0 h)/\Fr h (h.put p 8 [I x]) (·=p):=by
 have f1:Fr h (h.put p 8 [I x]) (·=p):=Fr.refl.put (.inl rfl)
 have o1:=gW (off:=8) (cs:=[I x]) pa.p
 generalize h.put p 8 [I x]=h1 at *
 have dr:∀{j:Nat}{o:AO},h.obj j=some o->o.ty≠97->h1.obj j=some o:=fun ho b7=>f1.obj ho (bG ho pa.p b7)
 refine⟨⟨pa.n,o1,dr pa.m.q (show(94:Nat)≠97 by decide),dr pa.m.b (show(94:Nat)≠97 by decide),dr pa.m.g (show(95:Nat)≠97 by decide),pa.m.len,fun k d id h1 h2=>(pa.m.d k d id h1 h2).fr f1 fun i o ho ht=>?_,pa.m.nd,pa.m.qb⟩,TW.mO f1 pa.n.1 pa.p rfl rfl,f1⟩
 exact bG ho pa.p (by rcases ht with h |h<;>rw[h]<;>show _≠(97:Nat)<;>decide)
theorem lY.dY{l:List Nat}(ho:lY ids own x4):lY (ids++l) own x4:=by
 cases own with
 |none=>exact ho
 |some k=>
  obtain⟨id,h1,h2⟩:=ho
  exact⟨id,by rw[List.getElem?_append_left (zM.1 h1).1];exact h1,h2⟩
theorem PA.ct(pa:PA n0 h p xr bk ids qm bm gm pl)(rt:RT h xr rs):MV h p xr rs bk ids qm bm gm:=⟨⟨_,pa.p,rfl,rfl⟩,rt,pa.m⟩
end
def Cz(h:AH)(p:Nat)(pl:Int):Prop:=∃cs,h.obj p=some (aI cs 9 97)/\cs[8]?=some (I pl)
theorem PA.rk{h:AH}{n0 p:Nat}{xr:AV}{bk:Bk}{ids:List Nat}{qm bm gm:Nat}{pl:Int}(pa:PA n0 h p xr bk ids qm bm gm pl):Cz h p pl:=⟨_,pa.p,rfl⟩
theorem Cz.be{h h':AH}{p:Nat}{pl:Int}(a:Cz h p pl)(f:Fr h h' fun _=>False):Cz h' p pl:=by
 obtain⟨cs,h1,h2⟩:=a
 exact⟨cs,f.bI h1,h2⟩
theorem EN{bk:Bk}{own:Option Nat}{i:Int}{r:Row}{e:Int}(h:fQ bk own i r=.error e):e≠0:=by
 have de:∀(bk:Bk)(l:List fJ){e:Int},f_ bk l 64 r=.error e->e≠0:=fun bk l e h=>by
  unfold f_ at h
  split at h
  ·cases h;decide
  split at h
  ·cases h;decide
  split at h
  ·cases h;decide
  cases h
 have er:∀x,ot x bk=.error e->e≠0:=fun x h=>by
  unfold ot at h
  split at h
  ·rename_i h0;cases h;exact h0
  ·cases h
 unfold fQ at h
 split at h
 ·cases hd:f_ bk bk.qs 64 r with
  |error e'=>rw[hd]at h;cases h;exact de bk _ hd
  |ok l=>rw[hd]at h;cases h
 split at h
 ·cases hd:f_ bk bk.bs 64 r with
  |error e'=>rw[hd]at h;cases h;exact de bk _ hd
  |ok l=>rw[hd]at h;cases h
 split at h
 ·unfold uJ at h
  split at h
  ·cases h;decide
  split at h
  ·cases h;decide
  split at h
  ·cases h;decide
  split at h
  ·cases h;decide
  cases h
 split at h
 ·split at h
  ·cases h;decide
  ·cases h
 split at h
 ·unfold sx at h
  split at h
  ·cases h;decide
  ·split at h
   ·cases h;decide
   ·cases h
 split at h
 ·unfold lG at h
  split at h
  ·cases h;decide
  split at h
  ·cases h;decide
  split at h
  ·cases h;decide
  split at h
  ·rename_i h0;cases h;exact h0
  split at h
  ·cases h;decide
  split at h
  ·cases h;decide
  cases h
 split at h
 ·unfold na at h
  split at h
  ·split at h
   ·rename_i h0;cases h;exact h0
   ·exact er _ h
  ·cases h;decide
 split at h
 ·unfold re at h
  split at h
  ·exact er _ h
  ·cases h;decide
 cases h
theorem C6(n:Nat):∀{deep:Nat}{own:Option Nat}{i:Nat}{rows:List Row}{bk:Bk}{x:Int×Int}(_:rows.length=n)(_:dN deep own i rows bk=.error x),x.2≠0:=by
 induction n using Nat.strongRecOn with
 |ind n ih=>
 intro deep own i rows bk x hn h
 cases rows with
 |nil=>rw[jP]at h;cases h
 |cons r rest=>
  rw[List.length_cons]at hn
  rw[kQ]at h
  split at h
  ·rename_i h0;cases h;exact h0
  split at h
  ·rename_i e he;cases h;exact EN he
  split at h
  ·rename_i e he;cases h
   exact ih _ (by rw[yA];omega) rfl he
  ·exact ih _ (by rw[List.length_drop];omega) rfl h
section
variable {p:Nat} {xr:AV} {qm bm gm:Nat} {rs:List (Row×AV)} {n0:Nat}
theorem Sf(n:Nat):∀{h:AH}{M:Nat->Prop}{R:AE->AH->Prop}{a deep:Nat}{own:Option Nat}{x4:AV}{bk:Bk}{ids:List Nat}{pl:Int}
  (_:PA n0 h p xr bk ids qm bm gm pl) (_:RT h xr rs) (_:l6 bk) (_:lY ids own x4) (_:a+n<=rs.length) (_:deep<=33) (_:∀id,TW TP n0 h id->M id)
  (_:∀gL e h',dN deep own a (sg rs a n) bk=.error (gL,e)->Cz h' p gL->Fr h h' (TW TP n0 h)->R (.ret (I e)) h')
  (_:∀b9 l gL h',dN deep own a (sg rs a n) bk=.ok b9->PA n0 h' p xr b9 (ids++l) qm bm gm gL->Fr h h' (TW TP n0 h)->R (.ret (I 0)) h'),
  aB Pg 37 [.ptr p 0,I a,I (a+n),I deep,x4] h M R:=by
 induction n using Nat.strongRecOn with
 |ind n ih=>
 intro h M R a deep own x4 oR Fp pl0 T5 Hu bi0 Zj hn acG hM he hk
 apply fh.aO
 unfold fh.cU fh.cX fh.cV
 have hlen:=Hu.n
 refine cJ (ι:=Nat×Bk×List Nat×Int) (fun i v h'=>v=[.ptr p 0,I (a+n),I deep,x4,I (a+(n-i.1:Nat):Int)]/\i.1<=n/\PA n0 h' p xr i.2.1 (Fp++i.2.2.1) qm bm gm i.2.2.2/\l6 i.2.1/\dN deep own (a+(n-i.1)) (sg rs (a+(n-i.1)) i.1) i.2.1=dN deep own a (sg rs a n) oR/\Fr h h' (TW TP n0 h)) (fun i=>i.1) (n,oR,[],pl0) ⟨by simp,zU _,by simpa using T5,bi0,by simp,TW.bp Fr.refl⟩ ?_
 rintro K ⟨m,bk,Fe,pl⟩ v h1 ⟨rfl,hm,pa,bi,cm,f1⟩ step
 simp only at hm pa bi cm
 have Kj:=Hu.wX f1
 have ho:=Zj.dY (l:=Fe)
 unfold fh.cT
 simp only[zN,zO,fh.cE,bu]
 cases m with
 |zero=>
  have e1:decide ((a:Int)+(n-0:Nat)<a+n)=false:=by simp
  rw[IK,jP]at cm
  simp only[e1,fh.cG,ap,zE,zD,zC,zH,zV,fh.n1]
  simpa using hk bk Fe pl h1 cm.symm pa f1
 |succ m=>
  obtain⟨j,hj⟩:∃j,j=a+(n-(m+1)):=⟨_,rfl⟩
  have ej:(a:Int)+(n-(m+1):Nat)=(j:Int):=by omega
  have e1:decide ((j:Int)<a+n)=true:=by simp;omega
  rw[<-hj]at cm
  obtain⟨y,hy⟩:∃y,rs[j]?=some y:=⟨rs[j]'(by omega),zJ _⟩
  rw[IJ hy,kQ,AP (by omega)]at cm
  have Qh:=Kj.a y (zP hy)
  have Dv:∀id,h1.next<=id->(M id\/h.next<=id):=fun id hid=>.inr (zR f1.next hid)
  have Dw:∀{h2:AH},Fr h h2 (TW TP n0 h)->∀id,TW TP n0 h2 id->(M id\/h.next<=id):=fun f id hid=>(TW.back f hid).elim (fun h=>.inl (hM id h)) .inr
  have w1:∀x:Int,0<=x/\x<=1000000000->IntKind.i64.wrap x=x:=fun x hx=>aX (by omega) (by omega)
  simp only[e1,ej,fh.cG,ap,zD,zF,zC,zI,fh.cN,aL,aj,aF,pa.p,aA,zG,zA,ab]
  refine iK Kj.r fX (Kj.one hy) hy rfl rfl Dv fun vr h2 f2 _ lM=>?_
  have bY:=TW.trans f1 (TW.bp f2)
  have dO:=pa.be f2
  simp only[fh.cL,aj,aF,lM,aA,zG,ay,zA,zB,ab,aL,az,dO.p,eY,cn]
  refine⟨⟨.inl (hM p ⟨T5.n.1,_,T5.p,rfl,rfl⟩),rfl,rfl,by simp⟩,?_⟩
  obtain⟨A4,f3,g3⟩:=dO.Xn (x:=y.1.place)
  generalize h2.put p 8 [I y.1.place]=h3 at *
  have fD:=TW.trans bY f3
  have oH:=g3.obj lM (bG lM dO.p (show(46:Nat)≠97 by decide))
  have Ki:=Hu.wX fD
  have aaH:=Ki.a y (zP hy)
  unfold fh.cq
  refine dX oH rfl fun _=>?_
  have eb:IntKind.i64.wrap ((a:Int)+n-j)=(m:Int)+1:=by
   have:(a:Int)+n-j=m+1:=by omega
   rw[this];exact w1 _ (by omega)
  have eb2:IntKind.i64.wrap ((m:Int)+1-1)=m:=by
   have:(m:Int)+1-1=m:=by omega
   rw[this];exact w1 _ (by omega)
  simp only[kO,eb,eb2]
  refine⟨fun _=>False,fun _ h=>h.elim,Su A4.m aaH.1 ho fun h4 f4=>?_⟩
  have jT:=TW.trans fD (TW.bp f4)
  simp only[fh.cl,cy]
  by_cases k1:im y.1 m deep own.isSome=0
  ·rw[zW (by simpa using k1)]at cm
   have iw:(im y.1 m deep own.isSome != 0)=false:=by simp[k1]
   obtain⟨_,_,b0,b1,bdp,_,_⟩:=Cm k1
   obtain⟨k,pX⟩:∃k:Nat,y.1.rows=k:=⟨y.1.rows.toNat,by omega⟩
   have rD:k<=m:=by omega
   rw[pX,zY,oU rD,oV]at cm
   have YM:=f4.bI oH
   have YK:=A4.be f4
   have rt4:=Hu.wX jT
   have NU:=rt4.a y (zP hy)
   simp only[iw,fh.bX,ap,zE,zD,zC,zH,fh.bW]
   refine dX YM rfl fun _=>?_
   refine⟨TW TP n0 h4,fun id hs _=>Dw jT id hs,TO YK bi.ok ho NU.1 NU.2 (by omega) (by omega) (fun _ h=>h) ?_ ?_⟩
   ·intro e h5 hr f5
    rw[hr]at cm
    have oq:=TW.trans jT (TW.bp f5)
    have h0:e≠0:=EN hr
    have wW:(e != 0)=true:=by simp[h0]
    simp only[fh.bN,cy,wW,fh.bP,ap,zD,zF,zC,zI,fh.bM]
    simpa using he y.1.place e h5 cm.symm (YK.rk.be f5) oq
   ·intro qA aaF h5 hr r9 abL f5
    rw[hr]at cm
    simp only at cm
    have oq:=TW.trans jT f5
    obtain⟨Q5,x1,_,g2,g3'⟩:=xH bi NU.2 hr
    have HA:h5.obj vr=some (aI (ay y) 6 46):=TW.obj f5 YM rfl
    have TN:=Hu.wX oq
    obtain⟨l1,rfl⟩:∃l1,aaF=Fp++(Fe++l1):=by
     rcases abL with rfl |⟨id,rfl⟩
     ·exact⟨[],by simp⟩
     ·exact⟨[id],by simp⟩
    have Vi:=Zj.dY (l:=Fe++l1)
    have last:∀nJ l3 T1 h7,PA n0 h7 p xr nJ (Fp++l3) qm bm gm T1->l6 nJ->h7.obj vr=some (aI (ay y) 6 46)->dN deep own (j+1+k) (sg rs (j+1+k) (m-k)) nJ=dN deep own a (sg rs a n) oR->Fr h h7 (TW TP n0 h) ->
      fh.n2 (fun id=>M id\/h.next<=id) (aK Pg [.tmp 10] R) K (fun(i:Nat) (vs:List AV) (h:AH)=>if i=0 then fh.n1 (fun id=>M id\/h.next<=id) (aK Pg [.tmp 10] R) (aK Pg [.tmp 10] R) (fun _ _ _=>False) (fun v h=>R (.b6 v) h) h else False) (fun v h=>R (.b6 v) h) (.ptr p 0) (I (a+n)) (I deep) x4 (I j) (.ptr vr 0) h7:=fun nJ l3 T1 h7 Ku Wz Ug Qu QY=>by
     simp only[fh.n2,aj,aF,Ug,aA,zG,ay,zA,zB,ab,pX,bg,w1 (1+(k:Int)) (by omega),w1 ((j:Int)+(1+k)) (by omega)]
     have e8:j+1+k=a+(n-(m-k)):=by omega
     have e9:(j:Int)+(1+k)=a+(n-(m-k):Nat):=by omega
     rw[e8]at Qu
     refine step (m-k,nJ,l3,T1) _ h7 (by simp only;omega) ⟨by rw[<-e9],by simp only;omega,Ku,Wz,Qu,QY⟩
    have YX:∀inner dD,lY (Fp++(Fe++l1)) inner dD ->
      (∀e,dN (deep+1) inner (j+1) (sg rs (j+1) k) qA=.error e->dN deep own a (sg rs a n) oR=.error e) ->
      (∀ig l2 mM h6,dN (deep+1) inner (j+1) (sg rs (j+1) k) qA=.ok ig->PA n0 h6 p xr ig (Fp++l2) qm bm gm mM->Fr h h6 (TW TP n0 h)->h6.obj vr=some (aI (ay y) 6 46) ->
       fh.n7 (fun id=>M id\/h.next<=id) (aK Pg [.tmp 10] R) K (fun(i:Nat) (vs:List AV) (h:AH)=>if i=0 then fh.n1 (fun id=>M id\/h.next<=id) (aK Pg [.tmp 10] R) (aK Pg [.tmp 10] R) (fun _ _ _=>False) (fun v h=>R (.b6 v) h) h else False) (fun v h=>R (.b6 v) h) (.ptr p 0) (I (a+n)) (I deep) x4 (I j) (.ptr vr 0) h6) ->
      fh.bc (fun id=>M id\/h.next<=id) (aK Pg [.tmp 10] R) K (fun(i:Nat) (vs:List AV) (h:AH)=>if i=0 then fh.n1 (fun id=>M id\/h.next<=id) (aK Pg [.tmp 10] R) (aK Pg [.tmp 10] R) (fun _ _ _=>False) (fun v h=>R (.b6 v) h) h else False) (fun v h=>R (.b6 v) h) (.ptr p 0) (I (a+n)) (I deep) x4 (I j) (.ptr vr 0) dD h5:=fun inner dD Ob wQ cA=>by
     simp only[fh.bc,bg,aj,aF,HA,aA,zG,ay,zA,zB,ab,pX,w1 ((j:Int)+1) (by omega),w1 ((j:Int)+1+k) (by omega),w1 ((deep:Int)+1) (by omega)]
     refine⟨TW TP n0 h5,fun id hs _=>Dw oq id hs,ih k (by omega) (a:=j+1) (deep:=deep+1) r9 TN Q5 Ob (by omega) (by omega) (fun _ h=>h) ?_ ?_⟩
     ·intro gL e h6 sB hp6 f6
      have h0:e≠0:=C6 _ rfl sB
      have wW:(e != 0)=true:=by simp[h0]
      simp only[fh.aZ,cy,wW,fh.n9,ap,zD,zF,zC,zI,fh.n8]
      simpa using he gL e h6 (wQ _ sB) hp6 (TW.trans oq f6)
     ·intro ig l2 mM h6 sB yj f6
      have wW:((0:Int) != 0)=false:=rfl
      simp only[fh.aZ,cy,wW,fh.n9,ap,zE,zD,zC,zH]
      rw[List.append_assoc]at yj
      exact cA ig _ mM h6 sB yj (TW.trans oq f6) (TW.obj f6 HA rfl)
    have eg:(⟨#[103,97,116,101]⟩:ByteArray)=aN:=rfl
    have ol:((0:Int) != 0)=false:=rfl
    simp only[fh.bN,cy,ol,fh.bP,ap,zE,zD,zC,zH,fh.bF,fh.br,aj,aF,HA,aA,zG,ay,zA,zB,ab,cD,eg]
    by_cases kg:y.1.kind=aN
    ·rw[zX kg]at cm
     have eb1:=g3' kg
     obtain⟨d1,Q0⟩:∃d1:dH,d1=⟨y.1.name,y.1.args.map (·.name),j+1,j+1+y.1.rows,1,0,false⟩:=⟨_,rfl⟩
     have Dt:qA.ds[bk.ds.length]?=some d1:=by rw[eb1,Q0];simp
     have vp:d1.name=y.1.name:=by rw[Q0]
     obtain⟨id1,i1,i2,_⟩:=Cc r9.m Q5 Dt
     rw[vp]at i2
     simp only[zL kg,fh.ba,ap,zD,zF,zC,zI,aL,aj,aF,r9.p,HA,aA,zG,ay,zA,zB,ab]
     refine gY (enc:=Sb) jr z87 r9.m.g fun _=>?_
     rw[i2]
     simp only[fL,zE,if_false]
     refine YX (some bk.ds.length) _ ⟨id1,i1,rfl⟩ (fun e h6=>by rw[h6]at cm;exact cm.symm) fun ig l2 mM h6 sB yj DH KS=>?_
     rw[sB]at cm
     simp only[zX kg]at cm
     obtain⟨Ij,x2,s2⟩:=Af _ rfl (fun r hr=>by
      unfold sg at hr
      obtain⟨z,hz,rfl⟩:=List.mem_map.1 hr
      exact(TN.a z (List.mem_of_mem_drop (List.mem_of_mem_take hz))).2) Q5 sB
     obtain⟨d2,nF,ec⟩:=x2.at_ Dt
     have Zm:d2.name=y.1.name:=(congrArg (·.1) ec).trans vp
     have LD:d2.from_=((j+1:Nat):Int):=by
      have:=congrArg (·.2.2.1) ec
      rw[Q0]at this
      simp only[core]at this
      omega
     have wJ:d2.J7=((j+1:Nat):Int)+(k:Int):=by
      have:=congrArg (·.2.2.2) ec
      rw[Q0]at this
      simp only[core]at this
      omega
     obtain⟨Bg,i3,i4,xp,od,hxp⟩:=Cc yj.m Ij nF
     rw[Zm]at i4
     simp only[fh.n7,aj,aF,KS,aA,zG,ay,zA,zB,ab,cD,eg,zL kg,fh.n6,ap,zD,zF,zC,zI,fh.n5,aL,yj.p]
     refine gY (enc:=Sb) jr z87 yj.m.g fun _=>?_
     rw[i4]
     have Vt:=yj.n.2.2.2.2 Bg (zP i3)
     simp only[fL,zE,if_false,fh.n4,aL,aj,az,od,uO,cn]
     refine⟨⟨Dw DH Bg ⟨Vt,_,od,rfl,rfl⟩,rfl,rfl,by simp⟩,?_⟩
     have g7:Fr h6 (h6.put Bg 6 [B true]) (·=Bg):=Fr.refl.put (.inl rfl)
     have o7:=gW (off:=6) (cs:=[B true]) od
     generalize h6.put Bg 6 [B true]=h7 at *
     obtain⟨Ku,f7⟩:=yj.Nf (f:=fun d=>{ d with whole:=true }) nF i3 hxp (fun _=>rfl) rfl o7 g7
     have QY:=TW.trans DH f7
     have Ug:h7.obj vr=some (aI (ay y) 6 46):=TW.obj f7 KS rfl
     obtain⟨Wz,_⟩:=Ij.modify (k:=bk.ds.length) (f:=fun d=>{ d with whole:=true }) (fun _=>rfl) (fun d hd=>(Ij.ok.ds d hd).2)
     have ZD:(ig.ds.modify bk.ds.length fun d=>{ d with whole:=true })[bk.ds.length]?=some { d2 with whole:=true }:=by rw[getElem?_modify',zX rfl,nF];rfl
     obtain⟨xp7,YQ,aaJ⟩:=Ku.m.d _ _ _ ZD i3
     simp only[fh.n3,aL,aj,aF,YQ,aA,zG,zA,zB,ab,LD,wJ]
     refine⟨fun _=>False,fun _ h=>h.elim,OQ (fun d hd=>(Wz.ok.ds d hd).2.2.2) k (Ku.ct (Hu.wX QY)) (by omega) s2 fun h8 f8=>?_⟩
     have ecn:=D4 (f:=fun d=>{ d with whole:=true }) (fun _=>rfl) (fun _=>rfl) (ds:=ig.ds) (k:=bk.ds.length) s2 0
     simp only[ecn]
     have ZZ:=TW.trans QY (TW.bp f8)
     have pa8:=Ku.be f8
     have Uk:=f8.bI YQ
     have or8:=f8.bI Ug
     have aaI:bC nr 1 9 h8 xp7 d2.params:=aaJ.bp f8 fun _ _ h=>h
     generalize hc:countP ig.ds (sg rs (j+1) k) 0=c at *
     simp only[aL,aj,az,Uk,eY,cn]
     refine⟨⟨Dw ZZ Bg ⟨Vt,_,Uk,rfl,rfl⟩,rfl,rfl,by simp⟩,?_⟩
     have g9:Fr h8 (h8.put Bg 5 [I c]) (·=Bg):=Fr.refl.put (.inl rfl)
     have o9:=gW (off:=5) (cs:=[I c]) Uk
     generalize h8.put Bg 5 [I c]=h9 at *
     obtain⟨YJ,f9⟩:=pa8.Nf (f:=fun d=>{ d with ops:=c }) ZD i3 aaI (fun _=>rfl) rfl o9 g9
     have e9:({ ig with ds:=(ig.ds.modify bk.ds.length fun d=>{ d with whole:=true }).modify bk.ds.length fun d=>{ d with ops:=c } }:Bk)={ ig with ds:=lJ ig.ds bk.ds.length c }:=by rw[EH]
     rw[e9]at YJ
     have Z4:=(DS Ij (k:=bk.ds.length) s2).1
     rw[hc]at Z4
     exact last _ _ _ h9 YJ Z4 (TW.obj f9 or8 rfl) cm (TW.trans ZZ f9)
    ·rw[zW kg]at cm
     simp only[zK kg,fh.ba,ap,zE,zD,zC,zH]
     refine YX own x4 Vi (fun e h6=>by rw[h6]at cm;exact cm.symm) fun ig l2 mM h6 sB yj DH KS=>?_
     rw[sB]at cm
     simp only[zW kg]at cm
     obtain⟨Ij,x2,s2⟩:=Af _ rfl (fun r hr=>by
      unfold sg at hr
      obtain⟨z,hz,rfl⟩:=List.mem_map.1 hr
      exact(TN.a z (List.mem_of_mem_drop (List.mem_of_mem_take hz))).2) Q5 sB
     simp only[fh.n7,aj,aF,KS,aA,zG,ay,zA,zB,ab,cD,eg,zK kg,fh.n6,ap,zE,zD,zC,zH]
     exact last _ _ _ h6 yj Ij KS cm DH
  ·rw[zX k1]at cm
   have iw:(im y.1 m deep own.isSome != 0)=true:=by simp[k1]
   simp only[iw,fh.bX,ap,zD,zF,zC,zI,fh.bT]
   simpa using he _ _ h4 cm.symm (A4.rk.be f4) jT
end
end
end Go.Proofs.YtjehibknlmehmaaGreatDoor
