/- flat in plain Lean; its look at rows. No condition. -/
import Derived.Test.YtjehibknlmehmaaGf
import Derived.Test.YtjehibknlmehmaaEa
set_option maxRecDepth 100000
namespace Go.Proofs.Ytjehibknlmehmaa
section
open Go.Ab
structure Reg where
 name:ByteArray
 from_:Int
 size:Int
structure Dfn where
 name:ByteArray
 params:List ByteArray
 from_:Int
 to_:Int
 depth:Int
 ops:Int
 whole:Bool
structure Bk where
 qs:List Reg
 bs:List Reg
 ds:List Dfn
def regOf(l:List Reg)(n:ByteArray):Option Reg:=l.find? fun r=>decide (r.name=n)
def dfnOf(l:List Dfn)(n:ByteArray):Option Dfn:=l.find? fun d=>decide (d.name=n)
def totalR(l:List Reg):Int:=(l.map (·.size)).sum
def takenB(bk:Bk)(n:ByteArray):Bool:=(regOf bk.qs n).isSome||(regOf bk.bs n).isSome||(dfnOf bk.ds n).isSome||decide (0<arityT n)
def bodyK(k:ByteArray):Bool:=decide (k=sGate)||decide (k=sRepeat)||decide (k=sIf)
def knownK(k:ByteArray):Bool:=decide (k=sQubits)||decide (k=sBits)||decide (k=sUse)||decide (k=sMeasure)||decide (k=sReset)||bodyK k
def declK(k:ByteArray):Bool:=decide (k=sQubits)||decide (k=sBits)||decide (k=sGate)
def formP(r:Row)(behind deep:Int)(own:Bool):Int:=
 if !knownK r.kind||(!bodyK r.kind&&r.rows != 0)||decide (r.rows<0)||decide (behind<r.rows) then 100
 else if 32<deep then 102
 else if decide (0<deep)&&declK r.kind then 100
 else if own&&!decide (r.kind=sUse)&&!decide (r.kind=sRepeat) then 100
 else 0
def atP(l:List Reg)(a:Arg):Int:=
 match regOf l a.name with
 |none=>110
 |some g=>if a.index<0\/g.size<=a.index then 112 else 0
abbrev Er(α:Type):=Except Int α
def declP(bk:Bk)(l:List Reg)(most:Int)(r:Row):Er (List Reg):=
 if takenB bk r.name then .error 110 else if r.num<1 then .error 112 else if most-totalR l<r.num then .error 1 else .ok (l++[⟨r.name,totalR l,r.num⟩])
def dupG{α:Type}[DecidableEq α](l:List α):Bool:=(List.range l.length).any fun i=>match l[i]? with |some a=>memB a (l.take i) |none=>false
theorem dupG_at{α:Type}[DecidableEq α]{l:List α}{i:Nat}{a:α}(hi:l[i]?=some a)(h:memB a (l.take i)=true):dupG l=true:=by
 unfold dupG
 rw[List.any_eq_true]
 exact⟨i,List.mem_range.2 (zM.1 hi).1,by rw[hi];exact h⟩
theorem dupG_no{α:Type}[DecidableEq α]{l:List α}(h:∀i a,l[i]?=some a->memB a (l.take i)=false):dupG l=false:=by
 unfold dupG
 rw[List.any_eq_false]
 intro i hi
 rw[zJ (List.mem_range.1 hi)]
 simp only[h i _ (zJ (List.mem_range.1 hi))]
 decide
def dupS(l:List ByteArray):Bool:=dupG l
def defP(bk:Bk)(r:Row)(i:Int):Er Bk:=
 if takenB bk r.name then .error 110 else if r.args.length=0 then .error 111
 else if r.args.any (fun a=>a.index != -1) then .error 112
 else if dupS (r.args.map (·.name)) then .error 113
 else .ok { bk with ds:=bk.ds++[⟨r.name,r.args.map (·.name),i+1,i+1+r.rows,1,0,false⟩] }
def useArg(bk:Bk)(own:Option Dfn)(a:Arg):Int:=
 match own with
 |none=>atP bk.qs a
 |some d=>if a.index≠-1 then 112 else if memB a.name d.params then 0 else 110
def firstE(f:Arg->Int):List Arg->Int
 |[]=>0
 |a::l=>if f a≠0 then f a else firstE f l
def argKey(a:Arg):ByteArray×Int:=(a.name,a.index)
def dupA(l:List Arg):Bool:=dupG (l.map argKey)
def deepen(bk:Bk)(own:Option Nat)(n:Int):Bk:=match own with |some k=>{ bk with ds:=bk.ds.modify k fun d=>{ d with depth:=max d.depth n } } |none=>bk
def ownD(bk:Bk)(own:Option Nat):Option Dfn:=own.bind fun k=>bk.ds[k]?
def wants(bk:Bk)(n:ByteArray):Int×Int:=
 match dfnOf bk.ds n with
 |some d=>if d.whole then(d.params.length,d.depth) else(arityT n,0)
 |none=>(arityT n,0)
def loopB(bk:Bk)(own:Option Nat)(n:ByteArray):Bool:=match ownD bk own with |some d=>decide (n=d.name) |none=>false
def useP(bk:Bk)(own:Option Nat)(r:Row):Er Bk:=
 if loopB bk own r.name then .error 114
 else if (wants bk r.name).1=0 then .error 80
 else if (r.args.length:Int)≠(wants bk r.name).1 then .error 111
 else if firstE (useArg bk (ownD bk own)) r.args≠0 then .error (firstE (useArg bk (ownD bk own)) r.args)
 else if dupA r.args then .error 113
 else if own.isSome=true/\32<(wants bk r.name).2+1 then .error 102
 else .ok (deepen bk own ((wants bk r.name).2+1))
def errP(e:Int)(bk:Bk):Er Bk:=if e≠0 then .error e else .ok bk
def ifP(bk:Bk)(r:Row):Er Bk:=
 match regOf bk.bs r.name with
 |none=>.error 110
 |some c=>if r.num<0\/(c.size<63/\2^c.size.toNat<=r.num) then .error 112 else .ok bk
def measP(bk:Bk)(l:List Arg):Er Bk:=match l with |[a,b]=>if atP bk.qs a≠0 then .error (atP bk.qs a) else errP (atP bk.bs b) bk |_=>.error 111
def resetP(bk:Bk)(l:List Arg):Er Bk:=match l with |[a]=>errP (atP bk.qs a) bk |_=>.error 111
def rowP(bk:Bk)(own:Option Nat)(i:Int)(r:Row):Er Bk:=
 if r.kind=sQubits then(declP bk bk.qs 64 r).map fun l=>{ bk with qs:=l }
 else if r.kind=sBits then(declP bk bk.bs 64 r).map fun l=>{ bk with bs:=l }
 else if r.kind=sGate then defP bk r i
 else if r.kind=sRepeat then(if r.num<0 then .error 112 else .ok bk)
 else if r.kind=sIf then ifP bk r
 else if r.kind=sUse then useP bk own r
 else if r.kind=sMeasure then measP bk r.args
 else if r.kind=sReset then resetP bk r.args
 else .ok bk
def countP(ds:List Dfn)(rows:List Row)(n:Int):Int:=
 match rows with
 |[]=>n
 |r::rest=>
  let k:Int:=if r.kind=sRepeat then(let c:=countP ds (rest.take r.rows.toNat) 0;if 0<c then min r.num 4097*c else c) else match dfnOf ds r.name with |some d=>d.ops |none=>1
  countP ds (rest.drop r.rows.toNat) (min (n+k) 4097)
termination_by rows.length
decreasing_by all_goals (simp only[yA,List.length_drop,List.length_cons];omega)
def setWhole(ds:List Dfn)(k:Nat)(n:Int):List Dfn:=ds.modify k fun d=>{ d with whole:=true,ops:=n }
def lookP(deep:Nat)(own:Option Nat)(i:Nat)(rows:List Row)(bk:Bk):Except (Int×Int) Bk:=
 match rows with
 |[]=>.ok bk
 |r::rest=>
  if formP r rest.length deep own.isSome≠0 then .error (r.place,formP r rest.length deep own.isSome)
  else match rowP bk own i r with
   |.error e=>.error (r.place,e)
   |.ok bk1=>
    let inner:=if r.kind=sGate then some bk.ds.length else own
    match lookP (deep+1) inner (i+1) (rest.take r.rows.toNat) bk1 with
    |.error e=>.error e
    |.ok bk2=>
     let bk3:=if r.kind=sGate then{ bk2 with ds:=setWhole bk2.ds bk.ds.length (countP bk2.ds (rest.take r.rows.toNat) 0) } else bk2
     lookP deep own (i+1+r.rows.toNat) (rest.drop r.rows.toNat) bk3
termination_by rows.length
decreasing_by all_goals (simp only[yA,List.length_drop,List.length_cons];omega)
end
section
open Go.Ab
attribute [-simp] eAlloc_d eStore_f
def TP(t:TypeId):Bool:=t==63||t==64||t==66||t==91
def encG(r:Reg):AV:=.agg [I r.from_,I r.size]
def regM(l:List Reg):List (ByteArray×AV):=l.map fun r=>(r.name,encG r)
def dfnM(l:List Dfn)(ids:List Nat):List (ByteArray×AV):=(l.zip ids).map fun x=>(x.1.name,.ptr x.2 0)
abbrev oPrg(xr:AV)(qm bm gm:Nat)(xp:AV)(nq nb:Int)(xo:AV)(pl:Int):AO:=mkO [xr,.mp qm,.mp bm,.mp gm,xp,I nq,I nb,xo,I pl] 9 66
abbrev oDfn(xp:AV)(d:Dfn):AO:=mkO [Sb d.name,xp,I d.from_,I d.to_,I d.depth,I d.ops,B d.whole] 7 91
def DfnAt(h:AH)(id:Nat)(d:Dfn):Prop:=∃xp,h.obj id=some (oDfn xp d)/\SlL encS 1 9 h xp d.params
structure PM (h:AH) (bk:Bk) (ids:List Nat) (qm bm gm:Nat):Prop where
 q:h.obj qm=some (oMap Sb 63 (regM bk.qs))
 b:h.obj bm=some (oMap Sb 63 (regM bk.bs))
 g:h.obj gm=some (oMap Sb 64 (dfnM bk.ds ids))
 len:ids.length=bk.ds.length
 d:∀(k:Nat)(d:Dfn)(id:Nat),bk.ds[k]?=some d->ids[k]?=some id->DfnAt h id d
 nd:ids.Nodup
 qb:qm≠bm
structure PA (n0:Nat) (h:AH) (p:Nat) (xr:AV) (bk:Bk) (ids:List Nat) (qm bm gm:Nat) (pl:Int):Prop where
 n:n0<=p/\n0<=qm/\n0<=bm/\n0<=gm/\∀id∈ids,n0<=id
 p:h.obj p=some (oPrg xr qm bm gm nilS (totalR bk.qs) (totalR bk.bs) nilS pl)
 m:PM h bk ids qm bm gm
theorem DfnAt.fr{h h':AH}{id:Nat}{d:Dfn}(a:DfnAt h id d){S:Nat->Prop}(hf:Fr h h' S)(hs:∀i o,h.obj i=some o->o.ty=91\/o.ty=9->¬S i):DfnAt h' id d:=by
 obtain⟨xp,h1,h2⟩:=a
 refine⟨xp,hf.obj h1 (hs _ _ h1 (.inl rfl)),?_⟩
 rcases h2 with h2 |⟨i,h3,h4⟩
 ·exact .inl h2
 ·exact .inr ⟨i,h3,hf.obj h4 (hs _ _ h4 (.inr rfl))⟩
theorem PM.fr0{h h':AH}{bk:Bk}{ids:List Nat}{qm bm gm:Nat}(a:PM h bk ids qm bm gm)(hf:Fr h h' fun _=>False):PM h' bk ids qm bm gm:=
 ⟨hf.ob0 a.q,hf.ob0 a.b,hf.ob0 a.g,a.len,fun k d id h1 h2=>(a.d k d id h1 h2).fr hf fun _ _ _ _ h=>h,a.nd,a.qb⟩
theorem PA.fr0{n0:Nat}{h h':AH}{p:Nat}{xr:AV}{bk:Bk}{ids:List Nat}{qm bm gm:Nat}{pl:Int}(a:PA n0 h p xr bk ids qm bm gm pl)(hf:Fr h h' fun _=>False):PA n0 h' p xr bk ids qm bm gm pl:=
 ⟨a.n,hf.ob0 a.p,a.m.fr0 hf⟩
theorem getK_reg{n:ByteArray}{l:List Reg}:getK n (regM l)=(regOf l n).map encG:=getK_map
theorem getK_dfn{n:ByteArray}:∀{l:List Dfn}{ids:List Nat},ids.length=l.length->(getK n (dfnM l ids)=none/\dfnOf l n=none)\/∃(k:Nat)(d:Dfn)(id:Nat),getK n (dfnM l ids)=some (.ptr id 0)/\dfnOf l n=some d/\l[k]?=some d/\ids[k]?=some id
 |[],ids,_=>.inl ⟨by simp[dfnM,getK],rfl⟩
 |d::l,[],h=>by simp at h
 |d::l,id::ids,h=>by
  have e:dfnM (d::l) (id::ids)=(d.name,.ptr id 0)::dfnM l ids:=rfl
  rw[e]
  unfold dfnOf
  simp only[getK,List.find?_cons]
  by_cases hn:n=d.name
  ·rw[zX hn,zL hn.symm]
   exact .inr ⟨0,d,id,rfl,rfl,rfl,rfl⟩
  ·rw[zW hn,zK (fun h=>hn h.symm)]
   rcases getK_dfn (n:=n) (l:=l) (ids:=ids) (by simpa using h) with⟨h1,h2⟩ |⟨k,d',id',h1,h2,h3,h4⟩
   ·exact .inl ⟨h1,h2⟩
   ·exact .inr ⟨k+1,d',id',h1,h2,by simpa using h3,by simpa using h4⟩
theorem z93:zeroAV Try.prog 93=some (.agg [I 0,I 0]):=by kernel_rfl
theorem z87:zeroAV Try.prog 87=some (.sc (.pointer none)):=by kernel_rfl
section
variable {h:AH} {M:Nat->Prop} {R:AE->AH->Prop}
theorem bodied_ok{k:ByteArray}(hR:R (.ret (B (bodyK k))) h):ACalls Try.prog 59 [Sb k] h M R:=by
 apply F59.callsN
 unfold bodyK at hR
 by_cases k1:k=sGate
 ·subst k1;simpa[sGate] using hR
 ·by_cases k2:k=sRepeat
  ·subst k2;simpa[sGate,sRepeat] using hR
  ·by_cases k3:k=sIf
   ·subst k3;simpa[sGate,sRepeat,sIf] using hR
   ·simp[k1,k2,k3]at hR
    unfold sGate at k1;unfold sRepeat at k2;unfold sIf at k3
    simpa[k1,k2,k3] using hR
theorem known_ok{k:ByteArray}(hR:R (.ret (B (knownK k))) h):ACalls Try.prog 58 [Sb k] h M R:=by
 apply F58.callsN
 unfold knownK at hR
 by_cases k1:k=sQubits
 ·subst k1;simpa[sQubits] using hR
 by_cases k2:k=sBits
 ·subst k2;simpa[sQubits,sBits] using hR
 by_cases k3:k=sUse
 ·subst k3;simpa[sQubits,sBits,sUse] using hR
 by_cases k4:k=sMeasure
 ·subst k4;simpa[sQubits,sBits,sUse,sMeasure] using hR
 by_cases k5:k=sReset
 ·subst k5;simpa[sQubits,sBits,sUse,sMeasure,sReset] using hR
 simp[k1,k2,k3,k4,k5]at hR
 unfold sQubits at k1;unfold sBits at k2;unfold sUse at k3;unfold sMeasure at k4;unfold sReset at k5
 simp[-F58.n1,k1,k2,k3,k4,k5]
 unfold F58.n1
 refine⟨fun _=>False,fun _ h=>h.elim,bodied_ok ?_⟩
 simpa using hR
end
section
variable {h:AH} {M:Nat->Prop} {R:AE->AH->Prop} {n0 p:Nat} {xr:AV} {bk:Bk} {ids:List Nat} {qm bm gm:Nat} {pl:Int}
theorem taken_ok{cs:List AV}{n:ByteArray}(hp:h.obj p=some (mkO cs 9 66))(c1:cs[1]?=some (.mp qm))(c2:cs[2]?=some (.mp bm))(c3:cs[3]?=some (.mp gm))(hm:PM h bk ids qm bm gm)
  (hR:∀h',Fr h h' (fun _=>False)->R (.ret (B (takenB bk n))) h'):ACalls Try.prog 84 [.ptr p 0,Sb n] h M R:=by
 apply F84.callsN
 unfold F84.n12 F84.n11
 simp only[pNil_ptr,pFld_ptr,lLd_f,hp,ldk_mk,zG,c1,cellK_some]
 refine look_k (enc:=Sb) key9 z93 hm.q fun _=>?_
 rw[getK_reg]
 have hex:∀(o:Option Reg),∃a b,lookV true (.agg [I 0,I 0]) (o.map encG)=.tup [.agg [I a,I b],B o.isSome]:=fun o=>by
  cases o with
  |none=>exact⟨_,_,rfl⟩
  |some r=>exact⟨_,_,rfl⟩
 obtain⟨a1,b1,e1⟩:=hex (regOf bk.qs n)
 rw[e1]
 simp only[pExt_tup,zA,zB,cellK_some]
 refine new_var (cs:=[I a1,I b1]) rfl rfl rfl rfl (fun id hid=>.inr hid) fun v1 h1 f1 _ _=>?_
 unfold F84.n10
 simp only[pNil_ptr,pFld_ptr,lLd_f,f1.ob0 hp,ldk_mk,zG,c2,cellK_some]
 have hm1:=hm.fr0 f1
 refine look_k (enc:=Sb) key9 z93 hm1.b fun _=>?_
 rw[getK_reg]
 obtain⟨a2,b2,e2⟩:=hex (regOf bk.bs n)
 rw[e2]
 simp only[pExt_tup,zA,zB,cellK_some]
 refine new_var (cs:=[I a2,I b2]) rfl rfl rfl rfl (fun id hid=>.inr (zR f1.next hid)) fun v2 h2 f2 _ _=>?_
 have f02:=f1.tr0 f2
 unfold F84.n9
 simp only[pNil_ptr,pFld_ptr,lLd_f,f02.ob0 hp,ldk_mk,zG,c3,cellK_some]
 have hm2:=hm.fr0 f02
 refine look_k (enc:=Sb) key9 z87 hm2.g fun _=>?_
 have e3:∃z,lookV true (.sc (.pointer none)) (getK n (dfnM bk.ds ids))=.tup [z,B (dfnOf bk.ds n).isSome]:=by
  rcases getK_dfn (n:=n) hm.len with⟨h1,h2⟩ |⟨k,d,id,h1,h2,_⟩
  ·rw[h1,h2];exact⟨_,rfl⟩
  ·rw[h1,h2];exact⟨_,rfl⟩
 obtain⟨z,e3⟩:=e3
 rw[e3]
 simp only[pExt_tup,zA,zB,cellK_some]
 unfold takenB at hR
 generalize (regOf bk.qs n).isSome=t1 at *
 generalize (regOf bk.bs n).isSome=t2 at *
 generalize (dfnOf bk.ds n).isSome=t3 at *
 have fin:∀b,b=(t1||t2||t3)->F84.n3 (fun id=>M id\/h.next<=id) (retV Try.prog [.tmp 4] R) (retV Try.prog [.tmp 4] R) (fun _ _ _=>False) (fun v h=>R (.pan v) h) (Sb n) (B b) h2:=fun b hb=>by
  rw[<-hb]at hR
  cases b with
  |true=>simpa[F84.n3,F84.n2] using hR h2 f02
  |false=>
   simp only[F84.n3,aIg_b,zT,zE,zD,zC,zI]
   refine⟨fun _=>False,fun _ h=>h.elim,arity_ok fun h3 f3=>?_⟩
   have:=hR h3 (f02.tr0 f3)
   simpa[F84.n2] using this
 have fin:=fin _ rfl
 revert fin
 cases t1<;>cases t2<;>cases t3<;>intro fin<;>simp[-F84.n3]at fin<;>simp[-F84.n3]<;>exact fin
end
end
section
open Go.Ab
attribute [-simp] eAlloc_d eStore_f
theorem totalR_app(l:List Reg)(r:Reg):totalR (l++[r])=totalR l+r.size:=by simp[totalR]
theorem regM_app(l:List Reg)(r:Reg):regM (l++[r])=regM l++[(r.name,encG r)]:=by simp[regM]
theorem encRA_1{y:Row×AV}{l:List Arg}{f:Arg->List AV}{sz:Nat}{ty:TypeId}{h:AH}(ha:SlR f sz ty h y.2 l):(encRA y).all oneA=true:=by
 show(true&&(true&&(oneA y.2&&(true&&(true&&(true&&true))))))=true
 rw[ha.one.1];rfl
section
variable {h:AH} {M:Nat->Prop} {R:AE->AH->Prop} {n0 p:Nat} {xr:AV} {bk:Bk} {ids:List Nat} {qm bm gm:Nat} {pl:Int}
theorem at_ok{m:Nat}{l:List Reg}{a:Arg}(hm:h.obj m=some (oMap Sb 63 (regM l)))(hR:∀h',Fr h h' (fun _=>False)->R (.ret (I (atP l a))) h'):ACalls Try.prog 63 [.mp m,.agg a.enc] h M R:=by
 apply F63.callsN
 unfold F63.n11
 refine box_var (cs:=a.enc) (Arg.enc_one a) fun va h1 f1 _ oa=>?_
 unfold F63.n10
 simp only[pFld_ptr,lLd_f,oa,ldk_mk,zG,Arg.enc,zA,cellK_some]
 refine look_k (enc:=Sb) key9 z93 (f1.ob0 hm) fun _=>?_
 rw[getK_reg]
 unfold atP at hR
 cases hr:regOf l a.name with
 |none=>
  rw[hr]at hR
  simp only[Option.map_none,lookV,zV,pExt_tup,zA,zB,cellK_some]
  refine new_var (cs:=[I 0,I 0]) rfl rfl rfl rfl (fun id hid=>.inr (zR f1.next hid)) fun v1 h2 f2 _ _=>?_
  have:=hR h2 (f1.tr0 f2)
  simpa[F63.n9,F63.n8,F63.n7] using this
 |some g=>
  rw[hr]at hR
  simp only[yB,lookV,zV,encG,pExt_tup,zA,zB,cellK_some]
  refine new_var (cs:=[I g.from_,I g.size]) rfl rfl rfl rfl (fun id hid=>.inr (zR f1.next hid)) fun v1 h2 f2 _ ov=>?_
  have:=hR h2 (f1.tr0 f2)
  have oa2:=f2.ob0 oa
  by_cases k1:a.index<0
  ·simp[k1]at this
   simpa[oa2,ov,Arg.enc,k1] using this
  ·by_cases k2:g.size<=a.index
   ·simp[k1,k2]at this
    simpa[oa2,ov,Arg.enc,k1,k2] using this
   ·simp[k1,k2]at this
    simpa[oa2,ov,Arg.enc,k1,k2] using this
theorem declare_q{most:Int}{y:Row×AV}(pa:PA n0 h p xr bk ids qm bm gm pl)(ha:SlR Arg.enc 2 44 h y.2 y.1.args)(h64:most=64)(ht:0<=totalR bk.qs/\totalR bk.qs<=64)(hM:∀id,TW TP n0 h id->M id)
  (he:∀e h',declP bk bk.qs most y.1=.error e->Fr h h' (fun _=>False)->R (.ret (I e)) h')
  (hk:∀l' h',declP bk bk.qs most y.1=.ok l'->PA n0 h' p xr { bk with qs:=l' } ids qm bm gm pl->Fr h h' (TW TP n0 h)->R (.ret (I 0)) h') :
  ACalls Try.prog 60 [.ptr p 0,.agg (encRA y),.mp qm,.ptr p 5,I most] h M R:=by
 apply F60.callsN
 unfold F60.n13
 refine box_var (encRA_1 ha) fun vr h1 f1 hvr or_=>?_
 unfold F60.n12
 have pa1:=pa.fr0 f1
 simp only[pFld_ptr,lLd_f,or_,ldk_mk,zG,encRA,zA,zB,cellK_some]
 refine⟨fun _=>False,fun _ h=>h.elim,taken_ok pa1.p rfl rfl rfl pa1.m fun h2 f2=>?_⟩
 have f02:=f1.tr0 f2
 have pa2:=pa1.fr0 f2
 have or2:=f2.ob0 or_
 unfold declP at he hk
 cases htk:takenB bk y.1.name with
 |true=>
  have:=he 110 h2 (by rw[htk];rfl) f02
  simpa[F60.n11,F60.n4] using this
 |false=>
  rw[htk]at he hk
  simp only[zE,if_false]at he hk
  simp only[F60.n11,aIf_b,zE,zC,zD,zH]
  by_cases k1:y.1.num<1
  ·have:=he 112 h2 (by rw[zX k1]) f02
   simpa[F60.n10,F60.n9,F60.n5,or2,encRA,k1] using this
  ·rw[zW k1]at he hk
   have w1:IntKind.i64.wrap (most-totalR bk.qs)=most-totalR bk.qs:=wrap_in (by omega) (by omega)
   simp only[F60.n10,pFld_ptr,lLd_f,or2,ldk_mk,zG,encRA,zA,zB,cellK_some,pBin_lss,zK k1,F60.n9,aIf_b,zE,zC,zD,zH,F60.n8,pNil_ptr,pa2.p,pBin_sub,w1,pBin_gtr,gt_iff_lt]
   by_cases k2:most-totalR bk.qs<y.1.num
   ·have:=he 1 h2 (by rw[zX k2]) f02
    simpa[F60.n7,F60.n6,k2] using this
   ·rw[zW k2]at he hk
    simp only[zK k2,F60.n7,aIf_b,zE,zC,zD,zH]
    unfold F60.n3
    simp only[pFld_ptr,lLd_f,or2,ldk_mk,zG,encRA,zA,zB,cellK_some,pNil_ptr,pa2.p]
    refine⟨_,rfl,?_⟩
    have hnone:getK y.1.name (regM bk.qs)=none:=by
     rw[getK_reg]
     unfold takenB at htk
     simp only[Bool.or_eq_false_iff]at htk
     have:=htk.1.1.1
     cases hx:regOf bk.qs y.1.name with
     |none=>rfl
     |some _=>rw[hx]at this;cases this
    have hMm:∀id,TW TP n0 h id->(M id\/h.next<=id):=fun id hid=>.inl (hM id hid)
    have m0:h.obj qm=some (oMap Sb 63 (regM bk.qs)):=pa.m.q
    have p0:h.obj p=some (oPrg xr qm bm gm nilS (totalR bk.qs) (totalR bk.bs) nilS pl):=pa.p
    refine set_k (enc:=Sb) key9 (hMm _ ⟨pa.n.2.1,_,m0,rfl,rfl⟩) pa2.m.q hnone fun h3 om3 f3=>?_
    have npm:p≠qm:=obj_ne p0 m0 (show(66:Nat)≠63 by decide)
    have p3:h3.obj p=some (oPrg xr qm bm gm nilS (totalR bk.qs) (totalR bk.bs) nilS pl):=f3.obj pa2.p npm
    have or3:h3.obj vr=some (mkO (encRA y) 6 42):=f3.obj or2 (obj_ne or2 pa2.m.q (show(42:Nat)≠63 by decide))
    have w2:IntKind.i64.wrap (totalR bk.qs+y.1.num)=totalR bk.qs+y.1.num:=wrap_in (by omega) (by omega)
    unfold F60.n2
    simp only[pNil_ptr,pFld_ptr,lLd_f,p3,or3,ldk_mk,zG,encRA,zA,zB,cellK_some,pBin_add,w2,eStore_f,avC_int,stk_mk]
    refine⟨⟨hMm _ ⟨pa.n.1,_,p0,rfl,rfl⟩,rfl,rfl,by simp⟩,?_⟩
    have f4:Fr h3 (h3.put p 5 [I (totalR bk.qs+y.1.num)]) (·=p):=Fr.refl.put (.inl rfl)
    have p4:=put_mk (off:=5) (cs:=[I (totalR bk.qs+y.1.num)]) p3
    generalize h3.put p 5 [I (totalR bk.qs+y.1.num)]=h4 at *
    have fz:Fr h h4 (TW TP n0 h):=TW.trans (TW.trans (TW.of_fr f02) (TW.of_one f3 pa.n.2.1 pa2.m.q rfl rfl)) (TW.of_one f4 pa.n.1 p3 rfl rfl)
    refine hk _ h4 rfl ⟨pa.n,?_,?_⟩ fz
    ·rw[p4,totalR_app];rfl
    ·have keep:∀{i:Nat}{o:AO},h2.obj i=some o->i≠qm->i≠p->h4.obj i=some o:=fun ho h1 h2=>f4.obj (f3.obj ho h1) h2
     refine⟨by rw[regM_app];exact f4.obj om3 (Ne.symm npm),keep pa2.m.b (Ne.symm pa2.m.qb) (obj_ne pa2.m.b pa2.p (show(63:Nat)≠66 by decide)),keep pa2.m.g (obj_ne pa2.m.g pa2.m.q (show(64:Nat)≠63 by decide)) (obj_ne pa2.m.g pa2.p (show(64:Nat)≠66 by decide)),pa2.m.len,fun k d id h5 h6=>?_,pa2.m.nd,pa2.m.qb⟩
     obtain⟨xp,h7,h8⟩:=pa2.m.d k d id h5 h6
     refine⟨xp,keep h7 (obj_ne h7 pa2.m.q (show(91:Nat)≠63 by decide)) (obj_ne h7 pa2.p (show(91:Nat)≠66 by decide)),?_⟩
     rcases h8 with h8 |⟨i,h9,h10⟩
     ·exact .inl h8
     ·exact .inr ⟨i,h9,keep h10 (obj_ne h10 pa2.m.q (show(9:Nat)≠63 by decide)) (obj_ne h10 pa2.p (show(9:Nat)≠66 by decide))⟩
theorem declare_b{most:Int}{y:Row×AV}(pa:PA n0 h p xr bk ids qm bm gm pl)(ha:SlR Arg.enc 2 44 h y.2 y.1.args)(h64:most=64)(ht:0<=totalR bk.bs/\totalR bk.bs<=64)(hM:∀id,TW TP n0 h id->M id)
  (he:∀e h',declP bk bk.bs most y.1=.error e->Fr h h' (fun _=>False)->R (.ret (I e)) h')
  (hk:∀l' h',declP bk bk.bs most y.1=.ok l'->PA n0 h' p xr { bk with bs:=l' } ids qm bm gm pl->Fr h h' (TW TP n0 h)->R (.ret (I 0)) h') :
  ACalls Try.prog 60 [.ptr p 0,.agg (encRA y),.mp bm,.ptr p 6,I most] h M R:=by
 apply F60.callsN
 unfold F60.n13
 refine box_var (encRA_1 ha) fun vr h1 f1 hvr or_=>?_
 unfold F60.n12
 have pa1:=pa.fr0 f1
 simp only[pFld_ptr,lLd_f,or_,ldk_mk,zG,encRA,zA,zB,cellK_some]
 refine⟨fun _=>False,fun _ h=>h.elim,taken_ok pa1.p rfl rfl rfl pa1.m fun h2 f2=>?_⟩
 have f02:=f1.tr0 f2
 have pa2:=pa1.fr0 f2
 have or2:=f2.ob0 or_
 unfold declP at he hk
 cases htk:takenB bk y.1.name with
 |true=>
  have:=he 110 h2 (by rw[htk];rfl) f02
  simpa[F60.n11,F60.n4] using this
 |false=>
  rw[htk]at he hk
  simp only[zE,if_false]at he hk
  simp only[F60.n11,aIf_b,zE,zC,zD,zH]
  by_cases k1:y.1.num<1
  ·have:=he 112 h2 (by rw[zX k1]) f02
   simpa[F60.n10,F60.n9,F60.n5,or2,encRA,k1] using this
  ·rw[zW k1]at he hk
   have w1:IntKind.i64.wrap (most-totalR bk.bs)=most-totalR bk.bs:=wrap_in (by omega) (by omega)
   simp only[F60.n10,pFld_ptr,lLd_f,or2,ldk_mk,zG,encRA,zA,zB,cellK_some,pBin_lss,zK k1,F60.n9,aIf_b,zE,zC,zD,zH,F60.n8,pNil_ptr,pa2.p,pBin_sub,w1,pBin_gtr,gt_iff_lt]
   by_cases k2:most-totalR bk.bs<y.1.num
   ·have:=he 1 h2 (by rw[zX k2]) f02
    simpa[F60.n7,F60.n6,k2] using this
   ·rw[zW k2]at he hk
    simp only[zK k2,F60.n7,aIf_b,zE,zC,zD,zH]
    unfold F60.n3
    simp only[pFld_ptr,lLd_f,or2,ldk_mk,zG,encRA,zA,zB,cellK_some,pNil_ptr,pa2.p]
    refine⟨_,rfl,?_⟩
    have hnone:getK y.1.name (regM bk.bs)=none:=by
     rw[getK_reg]
     unfold takenB at htk
     simp only[Bool.or_eq_false_iff]at htk
     have:=htk.1.1.2
     cases hx:regOf bk.bs y.1.name with
     |none=>rfl
     |some _=>rw[hx]at this;cases this
    have hMm:∀id,TW TP n0 h id->(M id\/h.next<=id):=fun id hid=>.inl (hM id hid)
    have m0:h.obj bm=some (oMap Sb 63 (regM bk.bs)):=pa.m.b
    have p0:h.obj p=some (oPrg xr qm bm gm nilS (totalR bk.qs) (totalR bk.bs) nilS pl):=pa.p
    refine set_k (enc:=Sb) key9 (hMm _ ⟨pa.n.2.2.1,_,m0,rfl,rfl⟩) pa2.m.b hnone fun h3 om3 f3=>?_
    have npm:p≠bm:=obj_ne p0 m0 (show(66:Nat)≠63 by decide)
    have p3:h3.obj p=some (oPrg xr qm bm gm nilS (totalR bk.qs) (totalR bk.bs) nilS pl):=f3.obj pa2.p npm
    have or3:h3.obj vr=some (mkO (encRA y) 6 42):=f3.obj or2 (obj_ne or2 pa2.m.b (show(42:Nat)≠63 by decide))
    have w2:IntKind.i64.wrap (totalR bk.bs+y.1.num)=totalR bk.bs+y.1.num:=wrap_in (by omega) (by omega)
    unfold F60.n2
    simp only[pNil_ptr,pFld_ptr,lLd_f,p3,or3,ldk_mk,zG,encRA,zA,zB,cellK_some,pBin_add,w2,eStore_f,avC_int,stk_mk]
    refine⟨⟨hMm _ ⟨pa.n.1,_,p0,rfl,rfl⟩,rfl,rfl,by simp⟩,?_⟩
    have f4:Fr h3 (h3.put p 6 [I (totalR bk.bs+y.1.num)]) (·=p):=Fr.refl.put (.inl rfl)
    have p4:=put_mk (off:=6) (cs:=[I (totalR bk.bs+y.1.num)]) p3
    generalize h3.put p 6 [I (totalR bk.bs+y.1.num)]=h4 at *
    have fz:Fr h h4 (TW TP n0 h):=TW.trans (TW.trans (TW.of_fr f02) (TW.of_one f3 pa.n.2.2.1 pa2.m.b rfl rfl)) (TW.of_one f4 pa.n.1 p3 rfl rfl)
    refine hk _ h4 rfl ⟨pa.n,?_,?_⟩ fz
    ·rw[p4,totalR_app];rfl
    ·have keep:∀{i:Nat}{o:AO},h2.obj i=some o->i≠bm->i≠p->h4.obj i=some o:=fun ho h1 h2=>f4.obj (f3.obj ho h1) h2
     refine⟨keep pa2.m.q pa2.m.qb (obj_ne pa2.m.q pa2.p (show(63:Nat)≠66 by decide)),by rw[regM_app];exact f4.obj om3 (Ne.symm npm),keep pa2.m.g (obj_ne pa2.m.g pa2.m.b (show(64:Nat)≠63 by decide)) (obj_ne pa2.m.g pa2.p (show(64:Nat)≠66 by decide)),pa2.m.len,fun k d id h5 h6=>?_,pa2.m.nd,pa2.m.qb⟩
     obtain⟨xp,h7,h8⟩:=pa2.m.d k d id h5 h6
     refine⟨xp,keep h7 (obj_ne h7 pa2.m.b (show(91:Nat)≠63 by decide)) (obj_ne h7 pa2.p (show(91:Nat)≠66 by decide)),?_⟩
     rcases h8 with h8 |⟨i,h9,h10⟩
     ·exact .inl h8
     ·exact .inr ⟨i,h9,keep h10 (obj_ne h10 pa2.m.b (show(9:Nat)≠63 by decide)) (obj_ne h10 pa2.p (show(9:Nat)≠66 by decide))⟩
end
end
section
open Go.Ab
attribute [-simp] eAlloc_d eStore_f
theorem getK_isSome{κ:Type}[DecidableEq κ]{n:κ}:∀{l:List (κ×AV)},(getK n l).isSome=memB n (l.map (·.1))
 |[]=>rfl
 |(k,v)::l=>by
  have ih:=getK_isSome (n:=n) (l:=l)
  unfold memB at *
  simp only[getK,List.map_cons,idxN]
  by_cases e:n=k
  ·rw[zX e,zX e];rfl
  ·rw[zW e,zW e,ih]
   have sh:∀(l:List κ)(i j:Nat),(idxN n l i).isSome=(idxN n l j).isSome:=fun l=>by
    induction l with
    |nil=>intro i j;rfl
    |cons a l ih=>
     intro i j
     simp only[idxN]
     split
     ·rfl
     ·exact ih _ _
   exact sh _ _ _
theorem lookV_tup{z:AV}(o:Option AV):∃a,lookV true z o=.tup [a,B o.isSome]:=by
 cases o with
 |none=>exact⟨_,rfl⟩
 |some v=>exact⟨_,rfl⟩
theorem encS_one(s:ByteArray):(encS s).all oneA=true:=rfl
theorem any_at{α:Type}{f:α->Bool}{l:List α}{i:Nat}{a:α}(hi:l[i]?=some a)(h:f a=true):l.any f=true:=List.any_eq_true.2 ⟨a,zP hi,h⟩
theorem any_no{α:Type}{f:α->Bool}{l:List α}(h:∀(i:Nat)(a:α),l[i]?=some a->f a=false):l.any f=false:=by
 rw[List.any_eq_false]
 intro x hx
 obtain⟨i,hi,rfl⟩:=List.mem_iff_getElem.1 hx
 rw[h i _ (zJ hi)];decide
theorem z3:zeroAV Try.prog 3=some (I 0):=by kernel_rfl
section
variable {W:Nat->Prop} {QR QN:VK} {QE:Nat->VK} {QP:AV->AH->Prop} {h:AH} {x0:AV} {vr dd:Nat} {y:Row×AV}
theorem F61_index(hW:∀id,h.next<=id->W id)(or_:h.obj vr=some (mkO (encRA y) 6 42))(ha:SlR Arg.enc 2 44 h y.2 y.1.args)(hl:y.1.args.length<=100000000)
  (he:y.1.args.any (fun a=>a.index != -1)=true->∀h',Fr h h' (fun _=>False)->QR [I 112] h')
  (hk:y.1.args.any (fun a=>a.index != -1)=false->∀h',Fr h h' (fun _=>False)->F61.n15 W QR QN QE QP x0 (.ptr vr 0) (.ptr dd 0) h'):F61.n24 W QR QN QE QP x0 (.ptr vr 0) (.ptr dd 0) h:=by
 unfold F61.n24
 simp only[pFld_ptr,lLd_f,or_,ldk_mk,zG,encRA,zA,zB,cellK_some,ha.len.1,ha.len.2,zH]
 unfold F61.n23
 refine vLoop_of (ι:=Nat) (fun i v h'=>v=[x0,.ptr vr 0,.ptr dd 0,y.2,I y.1.args.length,I i]/\i<=y.1.args.length/\Fr h h' (fun _=>False)/\∀j a,j<i->y.1.args[j]?=some a->(a.index != -1)=false) (fun i=>y.1.args.length-i) 0 ⟨rfl,by omega,Fr.refl,fun j a h=>by omega⟩ ?_
 rintro K i v h' ⟨rfl,hi,hf,hb⟩ hK
 simp only[F61.g2_,zN,zO]
 by_cases hlt:i<y.1.args.length
 ·have hli:(i:Int)<y.1.args.length:=by omega
  have g1:y.1.args[i]?=some y.1.args[i]:=zJ hlt
  have w1:IntKind.i64.wrap ((i:Int)+1)=((i+1:Nat):Int):=by rw[wrap_in (by omega) (by omega)];simp
  generalize y.1.args[i]=g at *
  simp only[F61.n22,pBin_lss,zL hli,F61.n21,aIf_b,zD,zF,zC,zI,F61.n20]
  refine rng_var (ha.fr0 hf) Arg.enc_len (Arg.enc_one g) g1 rfl rfl (fun id hid=>hW id (zR hf.next hid)) fun vn h1 f1 hvn ov=>?_
  have f01:=hf.tr0 f1
  simp only[F61.n19,pFld_ptr,lLd_f,ov,ldk_mk,zG,Arg.enc,zA,zB,cellK_some,pBin_neq]
  cases hx:(g.index != -1) with
  |true=>
   simp only[F61.n18,aIf_b,zD,zF,zC,zI]
   exact he (any_at g1 hx) h1 f01
  |false=>
   simp only[F61.n18,aIf_b,zE,zD,zC,zH,F61.n16,pBin_add,w1]
   refine hK (i+1) _ _ (by omega) ⟨rfl,by omega,f01,fun j a hj hja=>?_⟩
   rcases Nat.lt_succ_iff_lt_or_eq.1 hj with h1 |h1
   ·exact hb j a h1 hja
   ·subst h1;rw[g1]at hja;cases hja;exact hx
 ·have hnl:¬(i:Int)<y.1.args.length:=by omega
  simp only[F61.n22,pBin_lss,zK hnl,F61.n21,aIf_b,zD,zE,zC,zH,zV,zN,zO]
  exact hk (any_no fun j a hja=>hb j a (by have:=(zM.1 hja).1;omega) hja) h' hf
theorem F61_params(hW:∀id,h.next<=id->W id)(hWd:W dd)(or_:h.obj vr=some (mkO (encRA y) 6 42))(ha:SlR Arg.enc 2 44 h y.2 y.1.args)(hl:y.1.args.length<=100000000){d:Dfn}(hd:h.obj dd=some (oDfn nilS d))
  (he:dupS (y.1.args.map (·.name))=true->∀h',Fr h h' (·=dd)->QR [I 113] h')
  (hk:dupS (y.1.args.map (·.name))=false->∀xp h',h'.obj dd=some (oDfn xp d)->SlL encS 1 9 h' xp (y.1.args.map (·.name))->Fr h h' (·=dd)->F61.n2 W QR QN QE QP x0 (.ptr vr 0) (.ptr dd 0) h'):F61.n15 W QR QN QE QP x0 (.ptr vr 0) (.ptr dd 0) h:=by
 unfold F61.n15
 refine mk_k (enc:=Sb) fun sm h1 os hsm f1=>?_
 have or1:=f1.ob0 or_
 have hd1:=f1.ob0 hd
 unfold F61.n14
 simp only[pFld_ptr,lLd_f,or1,ldk_mk,zG,encRA,zA,zB,cellK_some,ha.len.1,ha.len.2,zH]
 have hds:dd<h.next:=h.lt _ _ hd
 unfold F61.n13
 refine vLoop_of (ι:=Nat) (fun i v h'=>v=[x0,.ptr vr 0,.ptr dd 0,.mp sm,y.2,I y.1.args.length,I i]/\i<=y.1.args.length/\Fr h h' (·=dd) /\
  (∃sl:List (ByteArray×AV),h'.obj sm=some (oMap Sb 120 sl)/\sl.map (·.1)=(y.1.args.take i).map (·.name)) /\
  (∃xp,h'.obj dd=some (oDfn xp d)/\SlL encS 1 9 h' xp ((y.1.args.take i).map (·.name))/\InS (fun id=>h.next<=id/\id≠sm) xp) /\
  ∀j a,j<i->(y.1.args.map (·.name))[j]?=some a->memB a ((y.1.args.map (·.name)).take j)=false) (fun i=>y.1.args.length-i) 0
  ⟨rfl,by omega,f1.mono fun _ h=>h.elim,⟨[],os,rfl⟩,⟨nilS,hd1,.nil,fun _ _ _ he=>by cases he⟩,fun j a h=>by omega⟩ ?_
 rintro K i v h' ⟨rfl,hi,hf,⟨sl,hs1,hs2⟩,⟨xp,hp1,hp2,hp3⟩,hb⟩ hK
 simp only[F61.g1_,zN,zO]
 have hda:∀{h2},Fr h h2 (·=dd)->SlR Arg.enc 2 44 h2 y.2 y.1.args:=fun hf=>ha.fr hf fun id o ho hty e=>by
  subst e;rw[hd]at ho;cases ho;exact absurd (hty rfl) (show ¬(91:Nat)=44 by decide)
 by_cases hlt:i<y.1.args.length
 ·have hli:(i:Int)<y.1.args.length:=by omega
  have g1:y.1.args[i]?=some y.1.args[i]:=zJ hlt
  have w1:IntKind.i64.wrap ((i:Int)+1)=((i+1:Nat):Int):=by rw[wrap_in (by omega) (by omega)];simp
  have tk:(y.1.args.take (i+1)).map (·.name)=(y.1.args.take i).map (·.name)++[(y.1.args[i]).name]:=by rw[List.take_succ_eq_append_getElem hlt,List.map_append];rfl
  have gm1:(y.1.args.map (·.name))[i]?=some (y.1.args[i]).name:=by rw[List.getElem?_map,g1];rfl
  generalize y.1.args[i]=g at *
  simp only[F61.n12,pBin_lss,zL hli,F61.n11,aIf_b,zD,zF,zC,zI,F61.n10]
  refine rng_var (hda hf) Arg.enc_len (Arg.enc_one g) g1 rfl rfl (fun id hid=>hW id (zR hf.next hid)) fun vn h2 f2 hvn ov=>?_
  have hs1':=f2.ob0 hs1
  unfold F61.n9
  simp only[pFld_ptr,lLd_f,ov,ldk_mk,zG,Arg.enc,zA,cellK_some]
  refine look_k (enc:=Sb) key9 z3 hs1' fun _=>?_
  obtain⟨zz,ez⟩:=lookV_tup (z:=I 0) (getK g.name sl)
  rw[ez,getK_isSome,hs2]
  simp only[pExt_tup,zA,zB,cellK_some]
  rw[List.map_take]
  cases hx:memB g.name ((y.1.args.map (·.name)).take i) with
  |true=>
   simp only[F61.n8,F61.n7,aIf_b,zD,zF,zC,zI]
   exact he (dupG_at gm1 hx) h2 (hf.trans (f2.mono fun _ h=>h.elim))
  |false=>
   simp only[F61.n8,F61.n7,aIf_b,zE,zD,zC,zH,F61.n5,pFld_ptr,lLd_f,ov,ldk_mk,zG,Arg.enc,zA,cellK_some]
   have hno:getK g.name sl=none:=by
    have:=getK_isSome (n:=g.name) (l:=sl)
    rw[hs2,List.map_take,hx]at this
    cases hy:getK g.name sl with
    |none=>rfl
    |some _=>rw[hy]at this;cases this
   have hWm:∀{h3:AH},h.next<=h3.next->∀id,h.next<=id->W id:=fun _ id hid=>hW id hid
   refine set_k (enc:=Sb) key9 (hW sm hsm) hs1' hno fun h3 os3 f3=>?_
   have hp1':=f2.ob0 hp1
   have e3:dd≠sm:=by omega
   have hp3':h3.obj dd=some (oDfn xp d):=f3.obj hp1' e3
   have ov3:h3.obj vn=some (mkO g.enc 2 44):=f3.obj ov (obj_ne ov hs1' (show(44:Nat)≠120 by decide))
   simp only[F61.n4,pNil_ptr,pFld_ptr,lLd_f,hp3',ov3,ldk_mk,zG,Arg.enc,zA,zB,cellK_some]
   have hpl:SlL encS 1 9 h3 xp ((y.1.args.take i).map (·.name)):=by
    rcases hp2 with hp2 |⟨id,e,ho⟩
    ·exact .inl hp2
    ·exact .inr ⟨id,e,f3.obj (f2.ob0 ho) (hp3 id 0 _ e).2⟩
   refine appv (f:=encS) encS_len (by decide) rfl (by decide) rfl (encS_one _) hpl (fun id off n e=>hW id (hp3 id off n e).1) (by rw[zZ,yA];omega) fun y2 h4 hy2 hin f4=>?_
   have f4d:h4.obj dd=some (oDfn xp d):=f4.obj hp3' fun⟨off,n,e⟩=>by have:=(hp3 dd off n e).1;omega
   simp only[pNil_ptr,pFld_ptr,zG,eStore_f,f4d,stk_mk,hy2.toR.one.2]
   refine⟨⟨hWd,by rw[List.all_cons,hy2.toR.one.1];rfl,rfl,by simp⟩,?_⟩
   have f5:Fr h4 (h4.put dd 1 [y2]) (·=dd):=Fr.refl.put (.inl rfl)
   have o5:=put_mk (off:=1) (cs:=[y2]) f4d
   generalize h4.put dd 1 [y2]=h5 at *
   simp only[F61.n3,pBin_add,w1]
   have sm4:h4.obj sm=some (oMap Sb 120 (sl++[(g.name,I i)])):=f4.obj os3 fun⟨off,n,e⟩=>(hp3 sm off n e).2 rfl
   have n3:h.next<=h3.next:=zR (zR hf.next f2.next) f3.next
   have fz:Fr h h5 (·=dd):=by
    refine(((hf.trans (f2.mono fun _ h=>h.elim)).trans (f3.mono fun id e=>.inr (by rw[e];exact hsm))).trans (f4.mono fun id ⟨off,n,e⟩=>.inr (hp3 id off n e).1)).trans (f5.mono fun id e=>.inl e)
   refine hK (i+1) _ _ (by omega) ⟨rfl,by omega,fz,⟨_,f5.obj sm4 (fun e=>e3 e.symm),by rw[List.map_append,hs2,tk];rfl⟩,⟨y2,o5,?_,fun id off n e=>?_⟩,fun j a hj hja=>?_⟩
   ·rw[tk]
    rcases hy2 with hy2 |⟨id,e,ho⟩
    ·exact .inl hy2
    ·exact .inr ⟨id,e,f5.obj ho (by have:=hin id 0 _ e;omega)⟩
   ·have:=hin id off n e
    refine⟨by omega,?_⟩
    have:sm<h3.next:=h3.lt _ _ os3
    have:=hin id off n e
    omega
   ·rcases Nat.lt_succ_iff_lt_or_eq.1 hj with h1 |h1
    ·exact hb j a h1 hja
    ·subst h1;rw[gm1]at hja;cases hja;exact hx
 ·have hnl:¬(i:Int)<y.1.args.length:=by omega
  have ht:y.1.args.take i=y.1.args:=List.take_of_length_le (by omega)
  rw[ht]at hp2
  simp only[F61.n12,pBin_lss,zK hnl,F61.n11,aIf_b,zD,zE,zC,zH,zV,zN,zO]
  exact hk (dupG_no fun j a hja=>hb j a (by have:=(zM.1 hja).1;rw[zZ]at this;omega) hja) xp h' hp1 hp2 hf
end
end
section
open Go.Ab
attribute [-simp] eAlloc_d eStore_f
theorem dfnM_app{l:List Dfn}{ids:List Nat}{d:Dfn}{id:Nat}(h:ids.length=l.length):dfnM (l++[d]) (ids++[id])=dfnM l ids++[(d.name,.ptr id 0)]:=by
 unfold dfnM
 rw[List.zip_append h.symm,List.map_append];rfl
section
variable {h:AH} {M:Nat->Prop} {R:AE->AH->Prop} {n0 p:Nat} {xr:AV} {bk:Bk} {ids:List Nat} {qm bm gm:Nat} {pl:Int}
theorem define_ok{y:Row×AV}{i:Int}(pa:PA n0 h p xr bk ids qm bm gm pl)(ha:SlR Arg.enc 2 44 h y.2 y.1.args)(hl:y.1.args.length<=100000000)
  (hi:0<=i/\i<=1000000000) (hr:0<=y.1.rows/\y.1.rows<=1000000000) (hM:∀id,TW TP n0 h id->M id)
  (he:∀e h',defP bk y.1 i=.error e->Fr h h' (fun _=>False)->R (.ret (I e)) h')
  (hk:∀bk' id h',defP bk y.1 i=.ok bk'->PA n0 h' p xr bk' (ids++[id]) qm bm gm pl->Fr h h' (TW TP n0 h)->R (.ret (I 0)) h') :
  ACalls Try.prog 61 [.ptr p 0,.agg (encRA y),I i] h M R:=by
 apply F61.callsN
 unfold F61.n32
 refine box_var (encRA_1 ha) fun vr h1 f1 hvr or_=>?_
 unfold F61.n31
 have pa1:=pa.fr0 f1
 simp only[pFld_ptr,lLd_f,or_,ldk_mk,zG,encRA,zA,zB,cellK_some]
 refine⟨fun _=>False,fun _ h=>h.elim,taken_ok pa1.p rfl rfl rfl pa1.m fun h2 f2=>?_⟩
 have f02:=f1.tr0 f2
 have pa2:=pa1.fr0 f2
 have or2:=f2.ob0 or_
 have ha2:=ha.fr0 f02
 unfold defP at he hk
 cases htk:takenB bk y.1.name with
 |true=>
  have:=he 110 h2 (by rw[htk];rfl) f02
  simpa[F61.n30,F61.n29] using this
 |false=>
  rw[htk]at he hk
  simp only[zE,if_false]at he hk
  simp only[F61.n30,aIf_b,zE,zC,zD,zH,F61.n28,pFld_ptr,lLd_f,or2,ldk_mk,zG,encRA,zA,zB,cellK_some,ha2.len.1,ha2.len.2,pBin_eql]
  by_cases k1:y.1.args.length=0
  ·have:=he 111 h2 (by rw[zX k1]) f02
   have k1':((y.1.args.length:Int)==0)=true:=by rw[k1];rfl
   simpa[F61.n27,F61.n26,k1'] using this
  ·rw[zW k1]at he hk
   have k1':((y.1.args.length:Int)==0)=false:=by simpa using k1
   have w1:IntKind.i64.wrap (i+1)=i+1:=wrap_in (by omega) (by omega)
   have w2:IntKind.i64.wrap (i+1+y.1.rows)=i+1+y.1.rows:=wrap_in (by omega) (by omega)
   simp only[k1',F61.n27,aIf_b,zE,zC,zD,zH,F61.n25,pFld_ptr,lLd_f,or2,ldk_mk,zG,encRA,zA,zB,cellK_some,pBin_add,w1,w2]
   refine⟨_,rfl,?_⟩
   refine box_var (cs:=[Sb y.1.name,nilS,I (i+1),I (i+1+y.1.rows),I 1,I 0,B false]) rfl fun dd h3 f3 hdd od=>?_
   have f03:=f02.tr0 f3
   have or3:=f3.ob0 or2
   refine F61_index (fun id hid=>.inr (zR f03.next hid)) or3 (ha.fr0 f03) hl ?_ ?_
   ·intro hx h4 f4
    have:=he 112 h4 (by rw[zX hx]) (f03.tr0 f4)
    simpa using this
   ·intro hx h4 f4
    rw[zW (by rw[hx];decide)]at he hk
    have f04:=f03.tr0 f4
    have od4:h4.obj dd=some (oDfn nilS ⟨y.1.name,[],i+1,i+1+y.1.rows,1,0,false⟩):=f4.ob0 od
    have hdn:h.next<=dd:=zR f02.next hdd
    refine F61_params (fun id hid=>.inr (zR f04.next hid)) (.inr hdn) (f4.ob0 or3) (ha.fr0 f04) hl od4 ?_ ?_
    ·intro hx h5 f5
     have fz:Fr h h5 (fun _=>False):=f04.trans (f5.mono fun id e=>.inr (by rw[e];exact hdn))
     have:=he 113 h5 (by rw[zX hx]) fz
     simpa using this
    ·intro hx xp h5 od5 hp5 f5
     rw[zW (by rw[hx];decide)]at hk
     have f05:Fr h h5 (fun _=>False):=f04.trans (f5.mono fun id e=>.inr (by rw[e];exact hdn))
     have pa5:=pa.fr0 f05
     have or5:h5.obj vr=some (mkO (encRA y) 6 42):=f5.obj (f4.ob0 or3) (obj_ne (f4.ob0 or3) od4 (show(42:Nat)≠91 by decide))
     unfold F61.n2
     simp only[pNil_ptr,pFld_ptr,lLd_f,pa5.p,or5,ldk_mk,zG,encRA,zA,zB,cellK_some]
     have hnone:getK y.1.name (dfnM bk.ds ids)=none:=by
      unfold takenB at htk
      simp only[Bool.or_eq_false_iff]at htk
      have h1:=htk.1.2
      rcases getK_dfn (n:=y.1.name) pa.m.len with⟨h2,_⟩ |⟨k,d,id,h2,h3,_⟩
      ·exact h2
      ·rw[h3]at h1;cases h1
     have g0:=pa.m.g
     refine set_k (enc:=Sb) key9 (.inl (hM _ ⟨pa.n.2.2.2.1,_,g0,rfl,rfl⟩)) pa5.m.g hnone fun h6 og f6=>?_
     have f06:Fr h h6 (TW TP n0 h):=TW.trans (TW.of_fr f05) (TW.of_one f6 pa.n.2.2.2.1 pa5.m.g rfl rfl)
     have hidn:∀id∈ids,id<h.next:=fun id hid=>by
      obtain⟨k,hk,rfl⟩:=List.mem_iff_getElem.1 hid
      obtain⟨xp,h1,_⟩:=pa.m.d k _ _ (zJ (by rw[<-pa.m.len];exact hk)) (zJ hk)
      exact h.lt _ _ h1
     have h0n:n0<=h.next:=zR pa.n.1 (Nat.le_of_lt (h.lt _ _ pa.p))
     have keep:∀{j:Nat}{o:AO},h5.obj j=some o->o.ty≠64->h6.obj j=some o:=fun ho hne=>f6.obj ho (obj_ne ho pa5.m.g hne)
     have:=hk _ dd h6 rfl ⟨⟨pa.n.1,pa.n.2.1,pa.n.2.2.1,pa.n.2.2.2.1,fun id hid=>?_⟩,keep pa5.p (show(66:Nat)≠64 by decide),⟨keep pa5.m.q (show(63:Nat)≠64 by decide),keep pa5.m.b (show(63:Nat)≠64 by decide),by rw[dfnM_app pa.m.len];exact og,by rw[List.length_append,List.length_append,pa.m.len];rfl,fun k d id hd hi=>?_,?_,pa.m.qb⟩⟩ f06
     ·simpa using this
     ·rcases List.mem_append.1 hid with hid |hid
      ·exact pa.n.2.2.2.2 id hid
      ·simp only[List.mem_singleton]at hid;subst hid;exact zR h0n hdn
     ·have mk:∀{id:Nat}{d:Dfn},DfnAt h5 id d->DfnAt h6 id d:=fun a=>a.fr f6 fun i o ho ht e=>by
       subst e
       rw[pa5.m.g]at ho;cases ho
       rcases ht with ht |ht
       ·exact absurd ht (show ¬(64:Nat)=91 by decide)
       ·exact absurd ht (show ¬(64:Nat)=9 by decide)
      by_cases hk:k<bk.ds.length
      ·rw[List.getElem?_append_left hk]at hd
       rw[List.getElem?_append_left (by rw[pa.m.len];exact hk)]at hi
       exact mk (pa5.m.d k d id hd hi)
      ·rw[List.getElem?_append_right (by omega)]at hd
       rw[List.getElem?_append_right (by rw[pa.m.len];omega),pa.m.len]at hi
       have hk0:k-bk.ds.length=0:=by
        have:=(zM.1 hd).1
        simp at this;omega
       rw[hk0]at hd hi
       simp only[zA,zQ]at hd hi
       subst hd;subst hi
       exact mk ⟨xp,od5,hp5⟩
     ·rw[List.nodup_append]
      refine⟨pa.m.nd,by simp,fun a ha b hb=>?_⟩
      simp only[List.mem_singleton]at hb
      subst hb
      have:=hidn a ha
      omega
end
end
section
open Go.Ab
attribute [-simp] eAlloc_d eStore_f
theorem flat44:flatEq Try.prog 44=some [true,false]:=by kernel_rfl
abbrev encK(x:ByteArray×Int):AV:=.agg [Sb x.1,I x.2]
theorem key44:KeyE Try.prog 44 encK:=keyE_si flat44
theorem ptr87:isPtrT Try.prog 87=true:=by kernel_rfl
def OwnV(ids:List Nat)(own:Option Nat)(x:AV):Prop:=match own with |none=>x=.sc (.pointer none) |some k=>∃id,ids[k]?=some id/\x=.ptr id 0
theorem firstE_at{f:Arg->Int}:∀{l:List Arg}{i:Nat}{a:Arg},l[i]?=some a->f a≠0->(∀j b,j<i->l[j]?=some b->f b=0)->firstE f l=f a
 |[],i,a,h,_,_=>by simp at h
 |b::l,0,a,h,h1,_=>by simp only[zA,zQ]at h;subst h;simp[firstE,h1]
 |b::l,i+1,a,h,h1,h2=>by
  have:=h2 0 b (by omega) rfl
  simp only[firstE,this]
  rw[zW (by decide)]
  exact firstE_at (by simpa using h) h1 fun j c hj hc=>h2 (j+1) c (by omega) (by simpa using hc)
theorem firstE_no{f:Arg->Int}:∀{l:List Arg},(∀(j:Nat)(b:Arg),l[j]?=some b->f b=0)->firstE f l=0
 |[],_=>rfl
 |b::l,h=>by
  have:=h 0 b rfl
  simp only[firstE,this]
  rw[zW (by decide)]
  exact firstE_no fun j c hc=>h (j+1) c (by simpa using hc)
section
variable {W:Nat->Prop} {QR QN:VK} {QE:Nat->VK} {QP:AV->AH->Prop} {h:AH} {n0 p vr:Nat} {xr x2:AV} {bk:Bk} {ids:List Nat} {qm bm gm:Nat} {pl:Int} {y:Row×AV} {own:Option Nat} {n dp:Int}
theorem F62_dup(hW:∀id,h.next<=id->W id)(or_:h.obj vr=some (mkO (encRA y) 6 42))(ha:SlR Arg.enc 2 44 h y.2 y.1.args)(hl:y.1.args.length<=100000000)
  (he:dupA y.1.args=true->∀h',Fr h h' (fun _=>False)->QR [I 113] h')
  (hk:dupA y.1.args=false->∀h',Fr h h' (fun _=>False)->F62.n7 W QR QN QE QP x2 (I dp) h'):F62.n19 W QR QN QE QP x2 (.ptr vr 0) (I dp) h:=by
 unfold F62.n19
 refine mk_k (enc:=encK) fun sm h1 os hsm f1=>?_
 unfold F62.n18
 simp only[pFld_ptr,lLd_f,f1.ob0 or_,ldk_mk,zG,encRA,zA,zB,cellK_some,ha.len.1,ha.len.2,zH]
 unfold F62.n17
 refine vLoop_of (ι:=Nat) (fun i v h'=>v=[x2,I dp,.mp sm,y.2,I y.1.args.length,I i]/\i<=y.1.args.length/\Fr h h' (fun _=>False) /\
  (∃sl:List ((ByteArray×Int)×AV),h'.obj sm=some (oMap encK 144 sl)/\sl.map (·.1)=(y.1.args.take i).map argKey) /\
  ∀j a,j<i->(y.1.args.map argKey)[j]?=some a->memB a ((y.1.args.map argKey).take j)=false) (fun i=>y.1.args.length-i) 0
  ⟨rfl,by omega,f1,⟨[],os,rfl⟩,fun j a h=>by omega⟩ ?_
 rintro K i v h' ⟨rfl,hi,hf,⟨sl,hs1,hs2⟩,hb⟩ hK
 simp only[F62.g1_,zN,zO]
 by_cases hlt:i<y.1.args.length
 ·have hli:(i:Int)<y.1.args.length:=by omega
  have g1:y.1.args[i]?=some y.1.args[i]:=zJ hlt
  have w1:IntKind.i64.wrap ((i:Int)+1)=((i+1:Nat):Int):=by rw[wrap_in (by omega) (by omega)];simp
  have tk:(y.1.args.take (i+1)).map argKey=(y.1.args.take i).map argKey++[argKey y.1.args[i]]:=by rw[List.take_succ_eq_append_getElem hlt,List.map_append];rfl
  have gm1:(y.1.args.map argKey)[i]?=some (argKey y.1.args[i]):=by rw[List.getElem?_map,g1];rfl
  generalize y.1.args[i]=g at *
  simp only[F62.n16,pBin_lss,zL hli,F62.n15,aIf_b,zD,zF,zC,zI,F62.n14]
  refine rng_var (ha.fr0 hf) Arg.enc_len (Arg.enc_one g) g1 rfl rfl (fun id hid=>hW id (zR hf.next hid)) fun vn h2 f2 hvn ov=>?_
  have hs1':=f2.ob0 hs1
  unfold F62.n13
  refine var_ld ov rfl fun _=>?_
  have ek:AV.agg g.enc=encK (argKey g):=rfl
  rw[ek]
  refine look_k (enc:=encK) key44 z3 hs1' fun _=>?_
  obtain⟨zz,ez⟩:=lookV_tup (z:=I 0) (getK (argKey g) sl)
  rw[ez,getK_isSome,hs2]
  simp only[pExt_tup,zA,zB,cellK_some]
  rw[List.map_take]
  cases hx:memB (argKey g) ((y.1.args.map argKey).take i) with
  |true=>
   simp only[F62.n12,F62.n11,aIf_b,zD,zF,zC,zI]
   exact he (dupG_at gm1 hx) h2 (hf.tr0 f2)
  |false=>
   simp only[F62.n12,F62.n11,aIf_b,zE,zD,zC,zH]
   unfold F62.n9
   refine var_ld ov rfl fun _=>?_
   have hno:getK (argKey g) sl=none:=by
    have:=getK_isSome (n:=argKey g) (l:=sl)
    rw[hs2,List.map_take,hx]at this
    cases hy:getK (argKey g) sl with
    |none=>rfl
    |some _=>rw[hy]at this;cases this
   refine set_k (enc:=encK) key44 (hW sm hsm) hs1' hno fun h3 os3 f3=>?_
   simp only[F62.n8,pBin_add,w1]
   refine hK (i+1) _ _ (by omega) ⟨rfl,by omega,?_,⟨_,os3,by rw[List.map_append,hs2,tk];rfl⟩,fun j a hj hja=>?_⟩
   ·exact(hf.tr0 f2).trans (f3.mono fun id e=>.inr (by rw[e];exact hsm))
   ·rcases Nat.lt_succ_iff_lt_or_eq.1 hj with h1 |h1
    ·exact hb j a h1 hja
    ·subst h1;rw[gm1]at hja;cases hja;exact hx
 ·have hnl:¬(i:Int)<y.1.args.length:=by omega
  simp only[F62.n16,pBin_lss,zK hnl,F62.n15,aIf_b,zD,zE,zC,zH,zV,zN,zO]
  exact hk (dupG_no fun j a hja=>hb j a (by have:=(zM.1 hja).1;rw[zZ]at this;omega) hja) h' hf
theorem OwnV.cases(pm:PM h bk ids qm bm gm)(ho:OwnV ids own x2):(own=none/\ownD bk own=none/\x2=.sc (.pointer none))\/∃k id d,own=some k/\ownD bk own=some d/\bk.ds[k]?=some d/\ids[k]?=some id/\x2=.ptr id 0/\DfnAt h id d:=by
 cases own with
 |none=>exact .inl ⟨rfl,rfl,ho⟩
 |some k=>
  obtain⟨id,h1,h2⟩:=ho
  have hk:k<bk.ds.length:=by rw[<-pm.len];exact(zM.1 h1).1
  have h3:=zJ hk
  exact .inr ⟨k,id,_,rfl,h3,h3,h1,h2,pm.d k _ id h3 h1⟩
theorem F62_args(hW:∀id,h.next<=id->W id)(pa:PA n0 h p xr bk ids qm bm gm pl)(ho:OwnV ids own x2)(or_:h.obj vr=some (mkO (encRA y) 6 42))(ha:SlR Arg.enc 2 44 h y.2 y.1.args)(hl:y.1.args.length<=100000000)
  (hpl:∀d∈bk.ds,d.params.length<=100000000)
  (he:firstE (useArg bk (ownD bk own)) y.1.args≠0->∀h',Fr h h' (fun _=>False)->QR [I (firstE (useArg bk (ownD bk own)) y.1.args)] h')
  (hk:firstE (useArg bk (ownD bk own)) y.1.args=0->∀h',Fr h h' (fun _=>False)->F62.n19 W QR QN QE QP x2 (.ptr vr 0) (I dp) h'):F62.n38 W QR QN QE QP (.ptr p 0) x2 (.ptr vr 0) (I dp) h:=by
 unfold F62.n38
 simp only[pFld_ptr,lLd_f,or_,ldk_mk,zG,encRA,zA,zB,cellK_some,ha.len.1,ha.len.2,zH]
 unfold F62.n37
 refine vLoop_of (ι:=Nat) (fun i v h'=>v=[.ptr p 0,x2,.ptr vr 0,I dp,y.2,I y.1.args.length,I i]/\i<=y.1.args.length/\Fr h h' (fun _=>False) /\
  ∀j a,j<i->y.1.args[j]?=some a->useArg bk (ownD bk own) a=0) (fun i=>y.1.args.length-i) 0 ⟨rfl,by omega,Fr.refl,fun j a h=>by omega⟩ ?_
 rintro K i v h' ⟨rfl,hi,hf,hb⟩ hK
 simp only[F62.g2_,zN,zO]
 by_cases hlt:i<y.1.args.length
 ·have hli:(i:Int)<y.1.args.length:=by omega
  have g1:y.1.args[i]?=some y.1.args[i]:=zJ hlt
  have w1:IntKind.i64.wrap ((i:Int)+1)=((i+1:Nat):Int):=by rw[wrap_in (by omega) (by omega)];simp
  generalize y.1.args[i]=g at *
  simp only[F62.n36,pBin_lss,zL hli,F62.n35,aIf_b,zD,zF,zC,zI,F62.n34]
  refine rng_var (ha.fr0 hf) Arg.enc_len (Arg.enc_one g) g1 rfl rfl (fun id hid=>hW id (zR hf.next hid)) fun vn h2 f2 hvn ov=>?_
  have f02:=hf.tr0 f2
  have pa2:=pa.fr0 f02
  have bad:∀h3,Fr h h3 (fun _=>False)->useArg bk (ownD bk own) g≠0->QR [I (useArg bk (ownD bk own) g)] h3:=fun h3 f3 hne=>by
   have e:=firstE_at g1 hne hb
   have:=he (by rw[e];exact hne) h3 f3
   rwa [e]at this
  have good:∀h3,Fr h h3 (fun _=>False)->useArg bk (ownD bk own) g=0->∀QE',F62.n20 W QR K QE' QP (.ptr p 0) x2 (.ptr vr 0) (I dp) y.2 (I y.1.args.length) (I i) h3:=fun h3 f3 h0 QE'=>by
   simp only[F62.n20,pBin_add,w1]
   refine hK (i+1) _ _ (by omega) ⟨rfl,by omega,f3,fun j a hj hja=>?_⟩
   rcases Nat.lt_succ_iff_lt_or_eq.1 hj with h1 |h1
   ·exact hb j a h1 hja
   ·subst h1;rw[g1]at hja;cases hja;exact h0
  rcases ho.cases pa2.m with⟨_,e2,rfl⟩ |⟨k,id,d,_,e2,hkd,_,rfl,xp,od,hp⟩
  ·rw[e2]at bad good
   unfold useArg at bad good
   simp only at bad good
   simp only[F62.n33,pBin,ptr87,zH,F62.n32,aIf_b,zD,zF,zC,zI,F62.n31,pNil_ptr,pFld_ptr,lLd_f,pa2.p,ldk_mk,zG,zA,zB,cellK_some]
   refine var_ld ov rfl fun _=>?_
   refine⟨fun _=>False,fun _ h=>h.elim,at_ok pa2.m.q fun h3 f3=>?_⟩
   have f03:=f02.tr0 f3
   by_cases hz:atP bk.qs g=0
   ·have hz':(atP bk.qs g != 0)=false:=by simp[hz]
    simp only[F62.n30,pBin_neq,hz',F62.n29,aIf_b,zE,zD,zC,zH,F62.n27]
    exact good h3 f03 hz _
   ·have hz':(atP bk.qs g != 0)=true:=by simp[hz]
    simp only[F62.n30,pBin_neq,hz',F62.n29,aIf_b,zD,zF,zC,zI]
    exact bad h3 f03 hz
  ·rw[e2]at bad good
   unfold useArg at bad good
   simp only at bad good
   have hdm:=hpl d (zP hkd)
   simp only[F62.n33,pBin,ptr87,zH,F62.n32,aIf_b,zE,zD,zC,F62.n26,pFld_ptr,lLd_f,ov,ldk_mk,zG,Arg.enc,zA,zB,cellK_some]
   by_cases hx:g.index=-1
   ·have hx':(g.index != -1)=false:=by simp[hx]
    rw[zW (by simpa using hx)]at bad good
    simp only[hx',F62.n25,aIf_b,zE,zD,zC,zH,F62.n23,pNil_ptr,pFld_ptr,lLd_f,od,ov,ldk_mk,zG,Arg.enc,zA,zB,cellK_some]
    refine⟨fun _=>False,fun _ h=>h.elim,contains_str hp.toR (by omega) ?_⟩
    cases hm:memB g.name d.params with
    |true=>
     rw[hm]at bad good
     simp only[pUn_not,zS,F62.n22,aIf_b,zE,zD,zC,zH]
     exact good h2 f02 rfl _
    |false=>
     rw[hm]at bad good
     simp only[pUn_not,zT,F62.n22,aIf_b,zD,zF,zC,zI]
     exact bad h2 f02 (by decide)
   ·have hx':(g.index != -1)=true:=by simp[hx]
    rw[zX hx]at bad
    simp only[hx',F62.n25,aIf_b,zD,zF,zC,zI]
    exact bad h2 f02 (by decide)
 ·have hnl:¬(i:Int)<y.1.args.length:=by omega
  simp only[F62.n36,pBin_lss,zK hnl,F62.n35,aIf_b,zD,zE,zC,zH,zV,zN,zO]
  exact hk (firstE_no fun j a hja=>hb j a (by have:=(zM.1 hja).1;omega) hja) h' hf
end
end
section
open Go.Ab
attribute [-simp] eAlloc_d eStore_f
theorem arityT_le(n:ByteArray):0<=arityT n/\arityT n<=3:=by
 unfold arityT
 split
 ·rename_i x hx
  have key:∀x∈gateTab,0<=x.2.1/\x.2.1<=3:=by decide +kernel
  exact key x (List.mem_of_find?_eq_some hx)
 ·omega
theorem getElem?_modify'{α:Type}{f:α->α}{l:List α}{k j:Nat}:(l.modify k f)[j]?=if k=j then(l[j]?).map f else l[j]?:=by
 rw[List.getElem?_modify]
 by_cases h:k=j
 ·simp[h]
 ·simp[h]
theorem nodup_ix{l:List Nat}(h:l.Nodup){i j:Nat}{a:Nat}(hi:l[i]?=some a)(hj:l[j]?=some a):i=j:=by
 obtain⟨h1,h2⟩:=zM.1 hi
 obtain⟨h3,h4⟩:=zM.1 hj
 have hp:=List.pairwise_iff_getElem.1 h
 rcases Nat.lt_trichotomy i j with hlt |he |hlt
 ·exact absurd (h2.trans h4.symm) (hp i j h1 h3 hlt)
 ·exact he
 ·exact absurd (h4.trans h2.symm) (hp j i h3 h1 hlt)
theorem dfnM_modify{f:Dfn->Dfn}(hf:∀d,(f d).name=d.name):∀{l:List Dfn}{ids:List Nat}{k:Nat},dfnM (l.modify k f) ids=dfnM l ids
 |[],_,k=>by simp[dfnM]
 |d::l,[],0=>by simp[dfnM]
 |d::l,[],k+1=>by simp[dfnM]
 |d::l,id::ids,0=>by simp[dfnM,hf]
 |d::l,id::ids,k+1=>by
  have:=dfnM_modify hf (l:=l) (ids:=ids) (k:=k)
  unfold dfnM at *
  simp only[List.modify_succ_cons,List.zip_cons_cons,List.map_cons,this]
section
variable {h:AH} {n0 p:Nat} {xr:AV} {bk:Bk} {ids:List Nat} {qm bm gm:Nat} {pl:Int}
theorem PA.setD{h':AH}{k id:Nat}{d:Dfn}{f:Dfn->Dfn}{xp:AV}(pa:PA n0 h p xr bk ids qm bm gm pl)(hd:bk.ds[k]?=some d)(hi:ids[k]?=some id)(hp:SlL encS 1 9 h xp d.params)(hn:∀d,(f d).name=d.name)(hpr:(f d).params=d.params)
  (ho:h'.obj id=some (oDfn xp (f d))) (hf:Fr h h' (·=id)):PA n0 h' p xr { bk with ds:=bk.ds.modify k f } ids qm bm gm pl/\Fr h h' (TW TP n0 h):=by
 obtain⟨xp0,hid,_⟩:=pa.m.d k d id hd hi
 have keep:∀{j:Nat}{o:AO},h.obj j=some o->o.ty≠91->h'.obj j=some o:=fun ho hne=>hf.obj ho (obj_ne ho hid hne)
 refine⟨⟨pa.n,keep pa.p (show(66:Nat)≠91 by decide),⟨keep pa.m.q (show(63:Nat)≠91 by decide),keep pa.m.b (show(63:Nat)≠91 by decide),?_,by simp[pa.m.len],fun j e i h1 h2=>?_,pa.m.nd,pa.m.qb⟩⟩,TW.of_one hf (pa.n.2.2.2.2 id (zP hi)) hid rfl rfl⟩
 ·simp only
  rw[dfnM_modify hn]
  exact keep pa.m.g (show(64:Nat)≠91 by decide)
 ·simp only at h1
  rw[getElem?_modify']at h1
  have kp:∀{x:AV}{l:List ByteArray},SlL encS 1 9 h x l->SlL encS 1 9 h' x l:=fun hs=>by
   rcases hs with hs |⟨i,h3,h4⟩
   ·exact .inl hs
   ·exact .inr ⟨i,h3,keep h4 (show(9:Nat)≠91 by decide)⟩
  by_cases hk:k=j
  ·subst hk
   rw[zX rfl,hd]at h1
   cases h1
   rw[hi]at h2;cases h2
   exact⟨xp,ho,by rw[hpr];exact kp hp⟩
  ·rw[zW hk]at h1
   obtain⟨x2,h3,h4⟩:=pa.m.d j e i h1 h2
   have hne:i≠id:=fun e=>by
    subst e
    exact hk (nodup_ix pa.m.nd hi h2)
   exact⟨x2,hf.obj h3 hne,kp h4⟩
end
section
variable {W:Nat->Prop} {QR QN:VK} {QE:Nat->VK} {QP:AV->AH->Prop} {h:AH} {n0 p vr:Nat} {xr x2:AV} {bk:Bk} {ids:List Nat} {qm bm gm:Nat} {pl:Int} {y:Row×AV} {own:Option Nat} {dp:Int}
theorem F62_fin(hM:∀id,TW TP n0 h id->W id)(pa:PA n0 h p xr bk ids qm bm gm pl)(ho:OwnV ids own x2)(hdp:0<=dp/\dp<=1000)
  (he:own.isSome=true/\32<dp+1->QR [I 102] h)
  (hk:¬(own.isSome=true/\32<dp+1)->∀h',PA n0 h' p xr (deepen bk own (dp+1)) ids qm bm gm pl->Fr h h' (TW TP n0 h)->QR [I 0] h'):F62.n7 W QR QN QE QP x2 (I dp) h:=by
 have w1:IntKind.i64.wrap (dp+1)=dp+1:=wrap_in (by omega) (by omega)
 rcases ho.cases pa.m with⟨e1,e2,rfl⟩ |⟨k,id,d,e1,e2,hkd,hki,rfl,xp,od,hp⟩
 ·subst e1
  simp only[F62.n7,pBin,ptr87,zH,F62.n6,aIf_b,zE,zD,zC,F62.n1]
  exact hk (fun h=>by cases h.1) h pa (TW.of_fr Fr.refl)
 ·subst e1
  simp only[F62.n7,pBin,ptr87,zH,F62.n6,aIf_b,zD,zF,zC,zI,F62.n5,w1]
  by_cases k1:32<dp+1
  ·simp only[gt_iff_lt,zL k1,F62.n4,aIf_b,zD,zF,zC,zI,F62.n3]
   exact he ⟨rfl,k1⟩
  ·simp only[gt_iff_lt,zK k1,F62.n4,aIf_b,zE,zD,zC,zH,F62.n2,pNil_ptr,pFld_ptr,lLd_f,od,ldk_mk,zG,zA,zB,cellK_some,pBin_add,w1,pMM,eStore_f,avC_int,stk_mk]
   have hidn:=pa.n.2.2.2.2 id (zP hki)
   refine⟨⟨hM id ⟨hidn,_,od,rfl,rfl⟩,rfl,rfl,by simp⟩,?_⟩
   have emax:(if d.depth<dp+1 then dp+1 else d.depth)=max d.depth (dp+1):=by
    by_cases hh:d.depth<dp+1
    ·rw[zX hh];omega
    ·rw[zW hh];omega
   simp only[zE,if_false,emax,F62.n1]
   have f1:Fr h (h.put id 4 [I (max d.depth (dp+1))]) (·=id):=Fr.refl.put (.inl rfl)
   have o1:=put_mk (off:=4) (cs:=[I (max d.depth (dp+1))]) od
   generalize h.put id 4 [I (max d.depth (dp+1))]=h1 at *
   obtain⟨pa1,fz⟩:=pa.setD (f:=fun d=>{ d with depth:=max d.depth (dp+1) }) hkd hki hp (fun _=>rfl) rfl o1 f1
   exact hk (fun h=>k1 h.2) h1 pa1 fz
theorem F62_len(hW:∀id,h.next<=id->W id)(hM:∀id,TW TP n0 h id->W id)(pa:PA n0 h p xr bk ids qm bm gm pl)(ho:OwnV ids own x2)(or_:h.obj vr=some (mkO (encRA y) 6 42))(ha:SlR Arg.enc 2 44 h y.2 y.1.args)(hl:y.1.args.length<=100000000)
  (hpl:∀d∈bk.ds,d.params.length<=100000000) {n:Int} (hdp:0<=dp/\dp<=1000)
  (he:∀e h',(if n=0 then Except.error 80 else if (y.1.args.length:Int)≠n then .error 111 else if firstE (useArg bk (ownD bk own)) y.1.args≠0 then .error (firstE (useArg bk (ownD bk own)) y.1.args) else if dupA y.1.args then .error 113 else if own.isSome=true/\32<dp+1 then .error 102 else .ok (deepen bk own (dp+1)):Er Bk)=.error e->Fr h h' (fun _=>False)->QR [I e] h')
  (hk:∀bk' h',(if n=0 then Except.error 80 else if (y.1.args.length:Int)≠n then .error 111 else if firstE (useArg bk (ownD bk own)) y.1.args≠0 then .error (firstE (useArg bk (ownD bk own)) y.1.args) else if dupA y.1.args then .error 113 else if own.isSome=true/\32<dp+1 then .error 102 else .ok (deepen bk own (dp+1)):Er Bk)=.ok bk'->PA n0 h' p xr bk' ids qm bm gm pl->Fr h h' (TW TP n0 h)->QR [I 0] h') :
  F62.n44 W QR QN QE QP (.ptr p 0) x2 (.ptr vr 0) (I n) (I dp) h:=by
 unfold F62.n44
 simp only[pBin_eql]
 by_cases k1:n=0
 ·have:=he 80 h (by rw[zX k1]) Fr.refl
  simpa[F62.n43,F62.n42,k1] using this
 rw[zW k1]at he hk
 have k1':(n==0)=false:=by simpa using k1
 simp only[k1',F62.n43,aIf_b,zE,zD,zC,zH,F62.n41,pFld_ptr,lLd_f,or_,ldk_mk,zG,encRA,zA,zB,cellK_some,ha.len.1,ha.len.2,pBin_neq,int_bne]
 by_cases k2:(y.1.args.length:Int)=n
 ·rw[zW (by simpa using k2)]at he hk
  simp only[zL k2,zS,F62.n40,aIf_b,zE,zD,zC,zH]
  refine F62_args hW pa ho or_ ha hl hpl ?_ ?_
  ·intro h0 h1 f1
   exact he _ h1 (by rw[zX h0]) f1
  ·intro h0 h1 f1
   rw[zW (by simpa using h0)]at he hk
   refine F62_dup (fun id hid=>hW id (zR f1.next hid)) (f1.ob0 or_) (ha.fr0 f1) hl ?_ ?_
   ·intro hx h2 f2
    exact he _ h2 (by rw[zX hx]) (f1.tr0 f2)
   ·intro hx h2 f2
    rw[zW (by rw[hx];decide)]at he hk
    have f02:=f1.tr0 f2
    have back:∀id,TW TP n0 h2 id->W id:=fun id hid=>(TW.back (TW.of_fr f02) hid).elim (hM id) (hW id)
    refine F62_fin back (pa.fr0 f02) ho hdp ?_ ?_
    ·intro hc
     exact he _ h2 (by rw[zX hc]) f02
    ·intro hc h3 pa3 f3
     exact hk _ h3 (by rw[zW hc]) pa3 (TW.trans (TW.of_fr f02) f3)
 ·have:=he 111 h (by rw[zX k2]) Fr.refl
  simpa[k2,F62.n40,F62.n39] using this
theorem F62_look(hW:∀id,h.next<=id->W id)(hM:∀id,TW TP n0 h id->W id)(pa:PA n0 h p xr bk ids qm bm gm pl)(ho:OwnV ids own x2)(or_:h.obj vr=some (mkO (encRA y) 6 42))(ha:SlR Arg.enc 2 44 h y.2 y.1.args)(hl:y.1.args.length<=100000000)
  (hpl:∀d∈bk.ds,d.params.length<=100000000/\0<=d.depth/\d.depth<=100)
  (he:∀e h',loopB bk own y.1.name=false->useP bk own y.1=.error e->Fr h h' (fun _=>False)->QR [I e] h')
  (hk:∀bk' h',loopB bk own y.1.name=false->useP bk own y.1=.ok bk'->PA n0 h' p xr bk' ids qm bm gm pl->Fr h h' (TW TP n0 h)->QR [I 0] h') (hlp:loopB bk own y.1.name=false):F62.n50 W QR QN QE QP (.ptr p 0) x2 (.ptr vr 0) h:=by
 unfold F62.n50
 simp only[pFld_ptr,lLd_f,or_,ldk_mk,zG,encRA,zA,zB,cellK_some]
 refine⟨fun _=>False,fun _ h=>h.elim,arity_ok fun h1 f1=>?_⟩
 have pa1:=pa.fr0 f1
 unfold F62.n49
 simp only[pNil_ptr,pFld_ptr,lLd_f,pa1.p,f1.ob0 or_,ldk_mk,zG,encRA,zA,zB,cellK_some]
 refine look_k (enc:=Sb) key9 z87 pa1.m.g fun _=>?_
 have hW1:∀id,h1.next<=id->W id:=fun id hid=>hW id (zR f1.next hid)
 have hM1:∀id,TW TP n0 h1 id->W id:=fun id hid=>(TW.back (TW.of_fr f1) hid).elim (hM id) (hW id)
 have ue:useP bk own y.1=(if (wants bk y.1.name).1=0 then Except.error 80 else if (y.1.args.length:Int)≠(wants bk y.1.name).1 then .error 111 else if firstE (useArg bk (ownD bk own)) y.1.args≠0 then .error (firstE (useArg bk (ownD bk own)) y.1.args) else if dupA y.1.args then .error 113 else if own.isSome=true/\32<(wants bk y.1.name).2+1 then .error 102 else .ok (deepen bk own ((wants bk y.1.name).2+1)):Er Bk):=by
  unfold useP;rw[hlp];rfl
 rw[ue]at he hk
 have go:∀n dp:Int,wants bk y.1.name=(n,dp)->0<=dp/\dp<=1000->F62.n44 W QR QN QE QP (.ptr p 0) x2 (.ptr vr 0) (I n) (I dp) h1:=fun n dp hw hd=>by
  rw[hw]at he hk
  exact F62_len hW1 hM1 pa1 ho (f1.ob0 or_) (ha.fr0 f1) hl (fun d hd=>(hpl d hd).1) hd (fun e h' h2 f2=>he e h' hlp h2 (f1.tr0 f2)) (fun bk' h' h2 pa2 f2=>hk bk' h' hlp h2 pa2 (TW.trans (TW.of_fr f1) f2))
 unfold wants at go
 rcases getK_dfn (n:=y.1.name) pa1.m.len with⟨e1,e2⟩ |⟨k,d,id,e1,e2,hkd,hki⟩
 ·rw[e2]at go
  rw[e1]
  simp only[lookV,zV,pExt_tup,zA,zB,cellK_some,F62.n48,F62.n47,aIg_b,zE,zC,zD,zH,zS,F62.n46,pPick_b,if_false,F62.n45,aIf_b]
  exact go _ _ rfl (by omega)
 ·rw[e2]at go
  rw[e1]
  obtain⟨xp,od,hp⟩:=pa1.m.d k d id hkd hki
  have hd:=hpl d (zP hkd)
  simp only[lookV,zV,pExt_tup,zA,zB,cellK_some,F62.n48,F62.n47,aIg_b,zD,zS,zF,zC,zI,pNil_ptr,pFld_ptr,lLd_f,od,ldk_mk,zG,F62.n46,pPick_b,F62.n45]
  cases hwh:d.whole with
  |true=>
   simp only[hwh,zV]at go
   simp only[aIf_b,zD,zF,zC,zI,pNil_ptr,pFld_ptr,lLd_f,od,ldk_mk,zG,zA,zB,cellK_some,hp.toR.len.1,hp.toR.len.2,zH]
   exact go _ _ rfl (by omega)
  |false=>
   simp only[hwh,zE,if_false]at go
   simp only[aIf_b,zE,zD,zC,zH]
   exact go _ _ rfl (by omega)
end
section
variable {h:AH} {M:Nat->Prop} {R:AE->AH->Prop} {n0 p:Nat} {xr x2:AV} {bk:Bk} {ids:List Nat} {qm bm gm:Nat} {pl:Int} {own:Option Nat}
theorem use_ok{y:Row×AV}(pa:PA n0 h p xr bk ids qm bm gm pl)(ho:OwnV ids own x2)(ha:SlR Arg.enc 2 44 h y.2 y.1.args)(hl:y.1.args.length<=100000000)
  (hpl:∀d∈bk.ds,d.params.length<=100000000/\0<=d.depth/\d.depth<=100) (hM:∀id,TW TP n0 h id->M id)
  (he:∀e h',useP bk own y.1=.error e->Fr h h' (fun _=>False)->R (.ret (I e)) h')
  (hk:∀bk' h',useP bk own y.1=.ok bk'->PA n0 h' p xr bk' ids qm bm gm pl->Fr h h' (TW TP n0 h)->R (.ret (I 0)) h') :
  ACalls Try.prog 62 [.ptr p 0,.agg (encRA y),x2] h M R:=by
 apply F62.callsN
 unfold F62.n56
 refine box_var (encRA_1 ha) fun vr h1 f1 hvr or_=>?_
 have pa1:=pa.fr0 f1
 have hW1:∀id,h1.next<=id->(M id\/h.next<=id):=fun id hid=>.inr (zR f1.next hid)
 have hM1:∀id,TW TP n0 h1 id->(M id\/h.next<=id):=fun id hid=>(TW.back (TW.of_fr f1) hid).elim (fun h=>.inl (hM id h)) .inr
 have go:loopB bk own y.1.name=false->F62.n50 (fun id=>M id\/h.next<=id) (retV Try.prog [.tmp 6] R) (retV Try.prog [.tmp 6] R) (fun _ _ _=>False) (fun v h=>R (.pan v) h) (.ptr p 0) x2 (.ptr vr 0) h1:=fun hlp=>
  F62_look hW1 hM1 pa1 ho or_ (ha.fr0 f1) hl hpl (fun e h' _ h2 f2=>by simpa using he e h' h2 (f1.tr0 f2)) (fun bk' h' _ h2 pa2 f2=>by simpa using hk bk' h' h2 pa2 (TW.trans (TW.of_fr f1) f2)) hlp
 unfold F62.n55
 rcases ho.cases pa1.m with⟨e1,e2,rfl⟩ |⟨k,id,d,e1,e2,hkd,hki,rfl,xp,od,hp⟩
 ·simp only[pBin,ptr87,zH,F62.n54,aIg_b,zE,zS,zC,zD,F62.n53,pPick_b,if_false,F62.n52,aIf_b]
  exact go (by unfold loopB;rw[e2])
 ·by_cases k1:y.1.name=d.name
  ·have:=he 114 h1 (by unfold useP loopB;rw[e2];simp[k1]) f1
   simp only[pBin,ptr87,zH,F62.n54,aIg_b,zS,zD,zF,zC,zI,pFld_ptr,lLd_f,or_,ldk_mk,zG,encRA,zA,zB,cellK_some,pNil_ptr,od,zL k1,F62.n53,pPick_b,zV,F62.n52,aIf_b,F62.n51]
   simpa using this
  ·simp only[pBin,ptr87,zH,F62.n54,aIg_b,zS,zD,zF,zC,zI,pFld_ptr,lLd_f,or_,ldk_mk,zG,encRA,zA,zB,cellK_some,pNil_ptr,od,zK k1,F62.n53,pPick_b,zV,F62.n52,aIf_b,zE]
   exact go (by unfold loopB;rw[e2];simpa using k1)
end
end
section
open Go.Ab
attribute [-simp] eAlloc_d eStore_f
theorem pBin_shl{t:TypeId}{c:Bool}{k k':IntKind}{a b:Int}{K:AV->Prop}:pBin Try.prog .shl t c (.sc (.int k a)) (.sc (.int k' b)) K=(0<=b/\K (.sc (.int k (k.wrap (a*2^(min b.toNat k.bits)))))):=rfl
structure BkOK (bk:Bk):Prop where
 tq:0<=totalR bk.qs/\totalR bk.qs<=64
 tb:0<=totalR bk.bs/\totalR bk.bs<=64
 sq:∀r∈bk.qs,1<=r.size/\0<=r.from_/\r.from_+r.size<=totalR bk.qs
 sb:∀r∈bk.bs,1<=r.size/\0<=r.from_/\r.from_+r.size<=totalR bk.bs
 ds:∀d∈bk.ds,d.params.length<=100000000/\0<=d.depth/\d.depth<=100/\0<=d.ops/\d.ops<=4097
theorem BkOK.d3{bk:Bk}(a:BkOK bk):∀d∈bk.ds,d.params.length<=100000000/\0<=d.depth/\d.depth<=100:=fun d hd=>⟨(a.ds d hd).1,(a.ds d hd).2.1,(a.ds d hd).2.2.1⟩
section
variable {W:Nat->Prop} {QR QN:VK} {QE:Nat->VK} {QP:AV->AH->Prop} {h:AH} {n0 p vr:Nat} {xr x3:AV} {bk:Bk} {ids:List Nat} {qm bm gm:Nat} {pl i:Int} {y:Row×AV} {own:Option Nat}
structure RowK (W:Nat->Prop) (QR:VK) (h:AH) (n0 p:Nat) (xr:AV) (bk:Bk) (ids:List Nat) (qm bm gm:Nat) (pl:Int) (own:Option Nat) (x3:AV) (y:Row×AV) (vr:Nat) (res:Er Bk):Prop where
 pa:PA n0 h p xr bk ids qm bm gm pl
 ok:BkOK bk
 ow:OwnV ids own x3
 or_:h.obj vr=some (mkO (encRA y) 6 42)
 ha:SlR Arg.enc 2 44 h y.2 y.1.args
 hl:y.1.args.length<=100000000
 hW:∀id,h.next<=id->W id
 hM:∀id,TW TP n0 h id->W id
 he:∀e h',res=.error e->Fr h h' (fun _=>False)->QR [I e] h'
 hk:∀bk' ids' h',res=.ok bk'->PA n0 h' p xr bk' ids' qm bm gm pl->(ids'=ids\/∃id,ids'=ids++[id])->Fr h h' (TW TP n0 h)->QR [I 0] h'
theorem F39_q(k:RowK W QR h n0 p xr bk ids qm bm gm pl own x3 y vr ((declP bk bk.qs 64 y.1).map fun l=>{ bk with qs:=l })):F39.n2 W QR QN QE QP (.ptr p 0) (.ptr vr 0) h:=by
 unfold F39.n2
 refine var_ld k.or_ rfl fun _=>?_
 simp only[pNil_ptr,pFld_ptr,lLd_f,k.pa.p,ldk_mk,zG,Nat.add_zero,zA,zB,cellK_some]
 refine⟨TW TP n0 h,fun id hs _=>k.hM id hs,declare_q k.pa k.ha rfl k.ok.tq (fun _ h=>h) ?_ ?_⟩
 ·intro e h' h1 f1
  exact k.he e h' (by rw[h1];rfl) f1
 ·intro l' h' h1 pa' f1
  exact k.hk _ ids h' (by rw[h1];rfl) pa' (.inl rfl) f1
theorem F39_b(k:RowK W QR h n0 p xr bk ids qm bm gm pl own x3 y vr ((declP bk bk.bs 64 y.1).map fun l=>{ bk with bs:=l })):F39.n3 W QR QN QE QP (.ptr p 0) (.ptr vr 0) h:=by
 unfold F39.n3
 refine var_ld k.or_ rfl fun _=>?_
 simp only[pNil_ptr,pFld_ptr,lLd_f,k.pa.p,ldk_mk,zG,Nat.add_zero,Nat.reduceAdd,zA,zB,cellK_some]
 refine⟨TW TP n0 h,fun id hs _=>k.hM id hs,declare_b k.pa k.ha rfl k.ok.tb (fun _ h=>h) ?_ ?_⟩
 ·intro e h' h1 f1
  exact k.he e h' (by rw[h1];rfl) f1
 ·intro l' h' h1 pa' f1
  exact k.hk _ ids h' (by rw[h1];rfl) pa' (.inl rfl) f1
theorem F39_g(k:RowK W QR h n0 p xr bk ids qm bm gm pl own x3 y vr (defP bk y.1 i))(hi:0<=i/\i<=1000000000)(hr:0<=y.1.rows/\y.1.rows<=1000000000):F39.n4 W QR QN QE QP (.ptr p 0) (I i) (.ptr vr 0) h:=by
 unfold F39.n4
 refine var_ld k.or_ rfl fun _=>?_
 refine⟨TW TP n0 h,fun id hs _=>k.hM id hs,define_ok k.pa k.ha k.hl hi hr (fun _ h=>h) k.he ?_⟩
 intro bk' id h' h1 pa' f1
 exact k.hk _ _ h' h1 pa' (.inr ⟨id,rfl⟩) f1
theorem F39_u(k:RowK W QR h n0 p xr bk ids qm bm gm pl own x3 y vr (useP bk own y.1)):F39.n19 W QR QN QE QP (.ptr p 0) x3 (.ptr vr 0) h:=by
 unfold F39.n19
 refine var_ld k.or_ rfl fun _=>?_
 refine⟨TW TP n0 h,fun id hs _=>k.hM id hs,use_ok k.pa k.ow k.ha k.hl k.ok.d3 (fun _ h=>h) k.he ?_⟩
 intro bk' h' h1 pa' f1
 exact k.hk _ _ h' h1 pa' (.inl rfl) f1
theorem F39_same(k:RowK W QR h n0 p xr bk ids qm bm gm pl own x3 y vr (.ok bk)){h':AH}(f:Fr h h' fun _=>False):QR [I 0] h':=k.hk bk ids h' rfl (k.pa.fr0 f) (.inl rfl) (TW.of_fr f)
theorem F39_r(k:RowK W QR h n0 p xr bk ids qm bm gm pl own x3 y vr (if y.1.num<0 then .error 112 else .ok bk)):F39.n7 W QR QN QE QP (.ptr vr 0) h:=by
 simp only[F39.n7,pFld_ptr,lLd_f,k.or_,ldk_mk,zG,encRA,zA,zB,cellK_some,pBin_lss]
 by_cases h0:y.1.num<0
 ·have:=k.he 112 h (by rw[zX h0]) Fr.refl
  simp only[zL h0,F39.n6,aIf_b,zD,zF,zC,zI,F39.n5]
  exact this
 ·have:=k.hk bk ids h (by rw[zW h0]) k.pa (.inl rfl) (TW.of_fr Fr.refl)
  simp only[zK h0,F39.n6,aIf_b,zE,zD,zC,zH,F39.n1]
  exact this
theorem F39_i(k:RowK W QR h n0 p xr bk ids qm bm gm pl own x3 y vr (ifP bk y.1)):F39.n18 W QR QN QE QP (.ptr p 0) (.ptr vr 0) h:=by
 unfold F39.n18
 simp only[pNil_ptr,pFld_ptr,lLd_f,k.pa.p,k.or_,ldk_mk,zG,encRA,zA,zB,cellK_some]
 refine look_k (enc:=Sb) key9 z93 k.pa.m.b fun _=>?_
 rw[getK_reg]
 have he:=k.he;have hk:=k.hk;have hsb:=k.ok.sb
 unfold ifP at he hk
 cases hr:regOf bk.bs y.1.name with
 |none=>
  rw[hr]at he
  simp only[Option.map_none,lookV,zV,pExt_tup,zA,zB,cellK_some]
  refine new_var (cs:=[I 0,I 0]) rfl rfl rfl rfl k.hW fun v1 h2 f2 _ _=>?_
  have:=he 110 h2 rfl f2
  simpa[F39.n17,F39.n16,F39.n15] using this
 |some g=>
  rw[hr]at he hk
  simp only at he hk
  have hg:=hsb g (List.mem_of_find?_eq_some hr)
  simp only[yB,lookV,zV,encG,pExt_tup,zA,zB,cellK_some]
  refine new_var (cs:=[I g.from_,I g.size]) rfl rfl rfl rfl k.hW fun v1 h2 f2 _ ov=>?_
  have or2:=f2.ob0 k.or_
  have pa2:=k.pa.fr0 f2
  simp only[F39.n17,pUn_not,zS,F39.n16,aIf_b,zE,zD,zC,zH]
  by_cases k1:y.1.num<0
  ·have:=he 112 h2 (by rw[zX (.inl k1)]) f2
   simpa[F39.n14,F39.n13,or2,encRA,k1] using this
  ·by_cases k2:g.size<63
   ·have hp:IntKind.i64.wrap (1*2^(min g.size.toNat IntKind.i64.bits))=2^g.size.toNat:=by
     have e:IntKind.i64.bits=64:=rfl
     rw[e,Nat.min_eq_left (by omega),Int.one_mul]
     have h1:(2:Int)^g.size.toNat=((2^g.size.toNat:Nat):Int):=by simp
     have h2:2^g.size.toNat<=2^62:=Nat.pow_le_pow_right (by decide) (by omega)
     have hP:∀P:Nat,P<=2^62->IntKind.i64.wrap (P:Int)=P:=fun P h=>wrap_in (by omega) (by omega)
     rw[h1]
     exact hP _ h2
    have k0:0<=g.size:=by omega
    simp only[F39.n14,pFld_ptr,lLd_f,or2,ov,ldk_mk,zG,encRA,zA,zB,cellK_some,pBin_lss,zK k1,F39.n13,aIg_b,zT,zS,zE,zF,zD,zC,zI,zL k2,F39.n12,pBin_shl,k0,zH,hp,pBin_geq,ge_iff_le]
    by_cases k3:2^g.size.toNat<=y.1.num
    ·have:=he 112 h2 (by rw[zX (.inr ⟨k2,k3⟩)]) f2
     simp only[zL k3,F39.n11,aIg_b,zT,zE,zD,zC,zI,pPick_b,zV,F39.n10,if_false,F39.n9,aIf_b,zF,F39.n8]
     exact this
    ·have:=hk bk ids h2 (by rw[zW (fun h=>h.elim k1 (fun h=>k3 h.2))]) pa2 (.inl rfl) (TW.of_fr f2)
     simp only[zK k3,F39.n11,aIg_b,zT,zE,zD,zC,zI,zH,pPick_b,zV,F39.n10,if_false,F39.n9,aIf_b,zF,F39.n1]
     exact this
   ·have:=hk bk ids h2 (by rw[zW (fun h=>h.elim k1 (fun h=>k2 h.1))]) pa2 (.inl rfl) (TW.of_fr f2)
    simp[F39.n14,F39.n13,F39.n12,F39.n11,F39.n10,F39.n9,F39.n1,or2,ov,encRA,k1,k2]
    exact this
theorem F39_last{h1:AH}{res:Er Bk}(k:RowK W QR h n0 p xr bk ids qm bm gm pl own x3 y vr res)(f1:Fr h h1 fun _=>False){e:Int}(hr:res=errP e bk):QR [I e] h1:=by
 unfold errP at hr
 by_cases h0:e=0
 ·rw[zW (by simpa using h0)]at hr
  rw[h0]
  exact k.hk bk ids h1 hr (k.pa.fr0 f1) (.inl rfl) (TW.of_fr f1)
 ·rw[zX h0]at hr
  exact k.he e h1 hr f1
theorem F39_s(k:RowK W QR h n0 p xr bk ids qm bm gm pl own x3 y vr (resetP bk y.1.args)):F39.n31 W QR QN QE QP (.ptr p 0) (.ptr vr 0) h:=by
 have hk:=k
 simp only[F39.n31,pFld_ptr,lLd_f,k.or_,ldk_mk,zG,encRA,zA,zB,cellK_some,k.ha.len.1,k.ha.len.2,zH,pBin_neq,int_bne]
 have hx:=k.ha
 cases ha:y.1.args with
 |nil=>
  rw[ha]at hk
  simpa[F39.n30,F39.n29] using hk.he 111 h rfl Fr.refl
 |cons a l=>
  cases l with
  |cons b l=>
   rw[ha]at hk
   have h1:¬(((a::b::l).length:Nat):Int)=1:=by simp only[List.length_cons];omega
   simp only[zK h1,zT,F39.n30,aIf_b,zD,zF,zC,zI,F39.n29]
   exact hk.he 111 h rfl Fr.refl
  |nil=>
   rw[ha]at hx hk
   have h1:(([a].length:Nat):Int)=1:=rfl
   simp only[zL h1,zS,F39.n30,aIf_b,zE,zD,zC,zH,F39.n28,pNil_ptr,pFld_ptr,lLd_f,k.pa.p,k.or_,ldk_mk,zG,encRA,zA,zB,cellK_some]
   refine rng_at (i:=0) hx Arg.enc_len rfl fun _=>?_
   refine⟨fun _=>False,fun _ h=>h.elim,at_ok k.pa.m.q fun h1 f1=>?_⟩
   exact F39_last hk f1 rfl
theorem F39_m(k:RowK W QR h n0 p xr bk ids qm bm gm pl own x3 y vr (measP bk y.1.args)):F39.n27 W QR QN QE QP (.ptr p 0) (.ptr vr 0) h:=by
 have hk:=k
 simp only[F39.n27,pFld_ptr,lLd_f,k.or_,ldk_mk,zG,encRA,zA,zB,cellK_some,k.ha.len.1,k.ha.len.2,zH,pBin_neq,int_bne]
 have hx:=k.ha
 have bad:y.1.args.length≠2->measP bk y.1.args=.error 111:=fun hne=>by
  unfold measP
  split
  ·rename_i h;rw[h]at hne;exact absurd rfl hne
  ·rfl
 by_cases hlen:y.1.args.length=2
 ·match ha:y.1.args,hlen with
  |[a,b],_=>
   rw[ha]at hx hk
   have h1:(([a,b].length:Nat):Int)=2:=rfl
   simp only[zL h1,zS,F39.n26,aIf_b,zE,zD,zC,zH,F39.n24,pNil_ptr,pFld_ptr,lLd_f,k.pa.p,k.or_,ldk_mk,zG,encRA,zA,zB,cellK_some]
   refine rng_at (i:=0) hx Arg.enc_len rfl fun _=>?_
   refine⟨fun _=>False,fun _ h=>h.elim,at_ok k.pa.m.q fun h1 f1=>?_⟩
   by_cases h0:atP bk.qs a=0
   ·have h0':(atP bk.qs a != 0)=false:=by simp[h0]
    have pa1:=k.pa.fr0 f1
    simp only[F39.n23,pBin_neq,h0',F39.n22,aIf_b,zE,zD,zC,zH,F39.n20,pNil_ptr,pFld_ptr,lLd_f,pa1.p,f1.ob0 k.or_,ldk_mk,zG,encRA,zA,zB,cellK_some]
    refine rng_at (i:=1) (hx.fr0 f1) Arg.enc_len rfl fun _=>?_
    refine⟨fun _=>False,fun _ h=>h.elim,at_ok pa1.m.b fun h2 f2=>?_⟩
    exact F39_last hk (f1.tr0 f2) (by simp only[measP];rw[zW (by simpa using h0)])
   ·have h0':(atP bk.qs a != 0)=true:=by simp[h0]
    simp only[F39.n23,pBin_neq,h0',F39.n22,aIf_b,zD,zF,zC,zI,F39.n21]
    exact hk.he _ h1 (by simp only[measP];rw[zX h0]) f1
 ·have h1:¬((y.1.args.length:Nat):Int)=2:=by omega
  simp only[zK h1,zT,F39.n26,aIf_b,zD,zF,zC,zI,F39.n25]
  exact k.he 111 h (bad hlen) Fr.refl
theorem F39_all(k:RowK W QR h n0 p xr bk ids qm bm gm pl own x3 y vr (rowP bk own i y.1))(hi:0<=i/\i<=1000000000)(hr:0<=y.1.rows/\y.1.rows<=1000000000):F39.n48 W QR QN QE QP (.ptr p 0) (I i) x3 (.ptr vr 0) h:=by
 simp only[F39.n48,pFld_ptr,lLd_f,k.or_,ldk_mk,zG,encRA,zA,zB,cellK_some]
 unfold rowP at k
 have e1:(⟨#[113,117,98,105,116,115]⟩:ByteArray)=sQubits:=rfl
 have e2:(⟨#[98,105,116,115]⟩:ByteArray)=sBits:=rfl
 have e3:(⟨#[103,97,116,101]⟩:ByteArray)=sGate:=rfl
 have e4:(⟨#[114,101,112,101,97,116]⟩:ByteArray)=sRepeat:=rfl
 have e5:(⟨#[105,102]⟩:ByteArray)=sIf:=rfl
 have e6:(⟨#[117,115,101]⟩:ByteArray)=sUse:=rfl
 have e7:(⟨#[109,101,97,115,117,114,101]⟩:ByteArray)=sMeasure:=rfl
 have e8:(⟨#[114,101,115,101,116]⟩:ByteArray)=sReset:=rfl
 unfold F39.n47
 rw[pBin_seql,e1]
 by_cases k1:y.1.kind=sQubits
 ·rw[zX k1]at k
  simp only[zL k1,F39.n46,aIf_b,zD,zF,zC,zI]
  exact F39_q k
 rw[zW k1]at k
 simp only[zK k1,F39.n46,aIf_b,zE,zD,zC,zH,F39.n45,pBin_seql,e2]
 by_cases k2:y.1.kind=sBits
 ·rw[zX k2]at k
  simp only[zL k2,F39.n44,aIf_b,zD,zF,zC,zI]
  exact F39_b k
 rw[zW k2]at k
 simp only[zK k2,F39.n44,aIf_b,zE,zD,zC,zH,F39.n43,pBin_seql,e3]
 by_cases k3:y.1.kind=sGate
 ·rw[zX k3]at k
  simp only[zL k3,F39.n42,aIf_b,zD,zF,zC,zI]
  exact F39_g k hi hr
 rw[zW k3]at k
 simp only[zK k3,F39.n42,aIf_b,zE,zD,zC,zH,F39.n41,pBin_seql,e4]
 by_cases k4:y.1.kind=sRepeat
 ·rw[zX k4]at k
  simp only[zL k4,F39.n40,aIf_b,zD,zF,zC,zI]
  exact F39_r k
 rw[zW k4]at k
 simp only[zK k4,F39.n40,aIf_b,zE,zD,zC,zH,F39.n39,pBin_seql,e5]
 by_cases k5:y.1.kind=sIf
 ·rw[zX k5]at k
  simp only[zL k5,F39.n38,aIf_b,zD,zF,zC,zI]
  exact F39_i k
 rw[zW k5]at k
 simp only[zK k5,F39.n38,aIf_b,zE,zD,zC,zH,F39.n37,pBin_seql,e6]
 by_cases k6:y.1.kind=sUse
 ·rw[zX k6]at k
  simp only[zL k6,F39.n36,aIf_b,zD,zF,zC,zI]
  exact F39_u k
 rw[zW k6]at k
 simp only[zK k6,F39.n36,aIf_b,zE,zD,zC,zH,F39.n35,pBin_seql,e7]
 by_cases k7:y.1.kind=sMeasure
 ·rw[zX k7]at k
  simp only[zL k7,F39.n34,aIf_b,zD,zF,zC,zI]
  exact F39_m k
 rw[zW k7]at k
 simp only[zK k7,F39.n34,aIf_b,zE,zD,zC,zH,F39.n33,pBin_seql,e8]
 by_cases k8:y.1.kind=sReset
 ·rw[zX k8]at k
  simp only[zL k8,F39.n32,aIf_b,zD,zF,zC,zI]
  exact F39_s k
 rw[zW k8]at k
 simp only[zK k8,F39.n32,aIf_b,zE,zD,zC,zH,F39.n1]
 exact F39_same k Fr.refl
end
section
variable {h:AH} {M:Nat->Prop} {R:AE->AH->Prop} {n0 p:Nat} {xr x3:AV} {bk:Bk} {ids:List Nat} {qm bm gm:Nat} {pl i:Int} {own:Option Nat}
theorem row_ok{y:Row×AV}(pa:PA n0 h p xr bk ids qm bm gm pl)(ok:BkOK bk)(ho:OwnV ids own x3)(ha:SlR Arg.enc 2 44 h y.2 y.1.args)(hl:y.1.args.length<=100000000)
  (hi:0<=i/\i<=1000000000) (hr:0<=y.1.rows/\y.1.rows<=1000000000) (hM:∀id,TW TP n0 h id->M id)
  (he:∀e h',rowP bk own i y.1=.error e->Fr h h' (fun _=>False)->R (.ret (I e)) h')
  (hk:∀bk' ids' h',rowP bk own i y.1=.ok bk'->PA n0 h' p xr bk' ids' qm bm gm pl->(ids'=ids\/∃id,ids'=ids++[id])->Fr h h' (TW TP n0 h)->R (.ret (I 0)) h') :
  ACalls Try.prog 39 [.ptr p 0,.agg (encRA y),I i,x3] h M R:=by
 apply F39.callsN
 unfold F39.n49
 refine box_var (encRA_1 ha) fun vr h1 f1 hvr or_=>?_
 refine F39_all ⟨pa.fr0 f1,ok,ho,or_,ha.fr0 f1,hl,fun id hid=>.inr (zR f1.next hid),fun id hid=>(TW.back (TW.of_fr f1) hid).elim (fun h=>.inl (hM id h)) .inr,?_,?_⟩ hi hr
 ·intro e h' h1 f2
  simpa using he e h' h1 (f1.tr0 f2)
 ·intro bk' ids' h' h1 pa' h2 f2
  simpa using hk bk' ids' h' h1 pa' h2 (TW.trans (TW.of_fr f1) f2)
end
end
section
open Go.Ab
attribute [-simp] eAlloc_d eStore_f
section
variable {W:Nat->Prop} {QR QN:VK} {QE:Nat->VK} {QP:AV->AH->Prop} {h:AH} {n0 p vr:Nat} {xr x4:AV} {bk:Bk} {ids:List Nat} {qm bm gm:Nat} {pl deep behind:Int} {y:Row×AV} {own:Option Nat}
def formB(r:Row)(deep:Int)(own:Bool):Int:=
 if 32<deep then 102
 else if decide (0<deep)&&declK r.kind then 100
 else if own&&!decide (r.kind=sUse)&&!decide (r.kind=sRepeat) then 100
 else 0
theorem F38_own{h':AH}(pm:PM h' bk ids qm bm gm)(or_:h.obj vr=some (mkO (encRA y) 6 42))(ho:OwnV ids own x4)(hR:QR [I (if own.isSome&&!decide (y.1.kind=sUse)&&!decide (y.1.kind=sRepeat) then 100 else 0)] h):F38.n11 W QR QN QE QP x4 (.ptr vr 0) h:=by
 have e6:(⟨#[117,115,101]⟩:ByteArray)=sUse:=rfl
 have e4:(⟨#[114,101,112,101,97,116]⟩:ByteArray)=sRepeat:=rfl
 rcases ho.cases pm with⟨e1,e2,rfl⟩ |⟨k,id,d,e1,e2,hkd,hki,rfl,xp,od,hp⟩
 ·subst e1
  simp only[Option.isSome_none,Bool.false_and,zE,if_false]at hR
  simp only[F38.n11,pBin,ptr87,zH,F38.n10,aIg_b,zE,zS,zC,zD,F38.n9,pPick_b,if_false,F38.n8,F38.n7,F38.n6,aIf_b,F38.n1]
  exact hR
 ·subst e1
  simp only[Option.isSome_some,Bool.true_and]at hR
  simp only[F38.n11,pBin,ptr87,zH,F38.n10,aIg_b,zS,zD,zF,zC,zI,pFld_ptr,lLd_f,or_,ldk_mk,zG,encRA,zA,zB,cellK_some,e6,F38.n9,pPick_b,zV,F38.n8]
  by_cases k1:y.1.kind=sUse
  ·simp[k1]at hR
   simpa[k1,F38.n7,F38.n6,F38.n1] using hR
  ·by_cases k2:y.1.kind=sRepeat
   ·simp[k1,k2]at hR
    simpa[k1,k2,or_,encRA,e4,F38.n7,F38.n6,F38.n1] using hR
   ·simp[k1,k2]at hR
    simpa[k1,k2,or_,encRA,e4,F38.n7,F38.n6,F38.n5] using hR
theorem F38_deep{h':AH}(pm:PM h' bk ids qm bm gm)(or_:h.obj vr=some (mkO (encRA y) 6 42))(ho:OwnV ids own x4)(hR:QR [I (formB y.1 deep own.isSome)] h):F38.n21 W QR QN QE QP (I deep) x4 (.ptr vr 0) h:=by
 unfold formB at hR
 have e1:(⟨#[113,117,98,105,116,115]⟩:ByteArray)=sQubits:=rfl
 have e2:(⟨#[98,105,116,115]⟩:ByteArray)=sBits:=rfl
 have e3:(⟨#[103,97,116,101]⟩:ByteArray)=sGate:=rfl
 simp only[F38.n21,pBin_gtr,gt_iff_lt]
 by_cases k1:32<deep
 ·simp[k1]at hR
  simpa[k1,F38.n20,F38.n3] using hR
 simp only[k1,if_false]at hR
 simp only[zK k1,F38.n20,aIf_b,zE,zD,zC,zH,F38.n19,pBin_gtr,gt_iff_lt]
 have own':=F38_own (W:=W) (QR:=QR) (QN:=QN) (QE:=QE) (QP:=QP) pm or_ ho
 have fin:∀b,b=(decide (0<deep)&&declK y.1.kind)->F38.n12 W QR QN QE QP x4 (.ptr vr 0) (B b) h:=fun b hb=>by
  rw[<-hb]at hR
  cases b with
  |true=>simpa[F38.n12,F38.n4] using hR
  |false=>
   simp only[F38.n12,aIf_b,zE,zD,zC,zH]
   exact own' (by simpa using hR)
 have fin:=fin _ rfl
 unfold declK at fin
 by_cases k2:0<deep
 ·by_cases k3:y.1.kind=sQubits<;>by_cases k4:y.1.kind=sBits<;>by_cases k5:y.1.kind=sGate <;>
   simp[-F38.n12,k2,k3,k4,k5]at fin <;>
   simp[-F38.n12,k2,k3,k4,k5,F38.n18,F38.n17,F38.n16,F38.n15,F38.n14,F38.n13,or_,encRA,e1,e2,e3]<;>exact fin
 ·simp[-F38.n12,k2]at fin
  simpa[-F38.n12,k2,F38.n18,F38.n17,F38.n16,F38.n15,F38.n14,F38.n13] using fin
end
section
variable {h:AH} {M:Nat->Prop} {R:AE->AH->Prop} {n0 p:Nat} {xr x4 x0:AV} {bk:Bk} {ids:List Nat} {qm bm gm:Nat} {pl deep behind:Int} {own:Option Nat}
theorem form_ok{y:Row×AV}(pm:PM h bk ids qm bm gm)(ha:SlR Arg.enc 2 44 h y.2 y.1.args)(ho:OwnV ids own x4)
  (hR:∀h',Fr h h' (fun _=>False)->R (.ret (I (formP y.1 behind deep own.isSome))) h'):ACalls Try.prog 38 [x0,.agg (encRA y),I behind,I deep,x4] h M R:=by
 apply F38.callsN
 unfold F38.n32
 refine box_var (encRA_1 ha) fun vr h1 f1 hvr or_=>?_
 have pm1:=pm.fr0 f1
 simp only[F38.n31,pFld_ptr,lLd_f,or_,ldk_mk,zG,encRA,zA,zB,cellK_some]
 refine⟨fun _=>False,fun _ h=>h.elim,known_ok ?_⟩
 have hb:formP y.1 behind deep own.isSome=if !knownK y.1.kind||(!bodyK y.1.kind&&y.1.rows != 0)||decide (y.1.rows<0)||decide (behind<y.1.rows) then 100 else formB y.1 deep own.isSome:=rfl
 have hR:=hR h1 f1
 rw[hb]at hR
 have fin:∀b,b=(!knownK y.1.kind||(!bodyK y.1.kind&&y.1.rows != 0)||decide (y.1.rows<0)||decide (behind<y.1.rows))->F38.n22 (fun id=>M id\/h.next<=id) (retV Try.prog [.tmp 10] R) (retV Try.prog [.tmp 10] R) (fun _ _ _=>False) (fun v h=>R (.pan v) h) (I deep) x4 (.ptr vr 0) (B b) h1:=fun b hb=>by
  rw[<-hb]at hR
  cases b with
  |true=>simpa[F38.n22,F38.n2] using hR
  |false=>
   simp only[F38.n22,aIf_b,zE,zD,zC,zH]
   exact F38_deep pm1 or_ ho (by simpa using hR)
 have fin:=fin _ rfl
 cases kn:knownK y.1.kind with
 |false=>
  simp[-F38.n22,kn]at fin
  simpa[-F38.n22,kn,F38.n30,F38.n29,F38.n28,F38.n27,F38.n26,F38.n25,F38.n24,F38.n23] using fin
 |true=>
  simp only[pUn_not,zS,F38.n30,aIg_b,zE,zT,zD,zF,zC,zI,pFld_ptr,lLd_f,or_,ldk_mk,zG,encRA,zA,zB,cellK_some]
  refine⟨fun _=>False,fun _ h=>h.elim,bodied_ok ?_⟩
  cases bo:bodyK y.1.kind<;>cases k0:(y.1.rows != 0)<;>by_cases k1:y.1.rows<0<;>by_cases k2:behind<y.1.rows <;>
   simp[-F38.n22,kn,bo,k0,k1,k2]at fin <;>
   simp[-F38.n22,or_,encRA,k0,k1,k2,F38.n29,F38.n28,F38.n27,F38.n26,F38.n25,F38.n24,F38.n23]<;>exact fin
end
end
section
open Go.Ab
attribute [-simp] eAlloc_d eStore_f
def sg(rs:List (Row×AV))(a n:Nat):List Row:=((rs.drop a).take n).map (·.1)
theorem sg_0{rs:List (Row×AV)}{a:Nat}:sg rs a 0=[]:=rfl
theorem sg_s{rs:List (Row×AV)}{a n:Nat}{y:Row×AV}(h:rs[a]?=some y):sg rs a (n+1)=y.1::sg rs (a+1) n:=by
 obtain⟨h1,h2⟩:=zM.1 h
 unfold sg
 rw[List.drop_eq_getElem_cons h1,h2,List.take_succ_cons,List.map_cons]
theorem sg_take{rs:List (Row×AV)}{a n k:Nat}(h:k<=n):(sg rs a n).take k=sg rs a k:=by
 unfold sg
 rw[<-List.map_take,List.take_take,Nat.min_eq_left h]
theorem sg_drop{rs:List (Row×AV)}{a n k:Nat}:(sg rs a n).drop k=sg rs (a+k) (n-k):=by
 unfold sg
 rw[<-List.map_drop,List.drop_take,List.drop_drop]
theorem sg_len{rs:List (Row×AV)}{a n:Nat}(h:a+n<=rs.length):(sg rs a n).length=n:=by
 unfold sg
 rw[zZ,yA,List.length_drop];omega
inductive Seg:List Row->Prop
 |nil:Seg []
 |cons {r:Row} {l:List Row} (h0:0<=r.rows) (h1:r.rows<=l.length) (h2:r.kind=sRepeat->0<=r.num) (h3:Seg (l.take r.rows.toNat)) (h4:Seg (l.drop r.rows.toNat)):Seg (r::l)
theorem Seg.inv{r:Row}{l:List Row}(h:Seg (r::l)):(0<=r.rows/\r.rows<=l.length)/\(r.kind=sRepeat->0<=r.num)/\Seg (l.take r.rows.toNat)/\Seg (l.drop r.rows.toNat):=by
 cases h with |cons h0 h1 h2 h3 h4=>exact⟨⟨h0,h1⟩,h2,h3,h4⟩
def countK(ds:List Dfn)(r:Row)(c:Int):Int:=if r.kind=sRepeat then(if 0<c then min r.num 4097*c else c) else match dfnOf ds r.name with |some d=>d.ops |none=>1
theorem countP_nil{ds:List Dfn}{n:Int}:countP ds [] n=n:=by rw[countP]
theorem countP_cons{ds:List Dfn}{n:Int}{r:Row}{l:List Row}:countP ds (r::l) n=countP ds (l.drop r.rows.toNat) (min (n+countK ds r (countP ds (l.take r.rows.toNat) 0)) 4097):=by rw[countP];rfl
theorem mul_bd{a b:Int}(h1:0<=a)(h2:a<=4097)(h3:0<=b)(h4:b<=4097):0<=a*b/\a*b<=16785409:=⟨Int.mul_nonneg h1 h3,Int.le_trans (Int.mul_le_mul h2 h4 h3 (by omega)) (by decide)⟩
theorem countK_bd{ds:List Dfn}{r:Row}{c:Int}(hd:∀d∈ds,0<=d.ops/\d.ops<=4097)(hc:0<=c/\c<=4097)(hr:r.kind=sRepeat->0<=r.num):0<=countK ds r c/\countK ds r c<=16785409:=by
 unfold countK
 by_cases k:r.kind=sRepeat
 ·rw[zX k]
  have hn:=hr k
  split
  ·have:=mul_bd (a:=min r.num 4097) (b:=c) (by omega) (by omega) hc.1 hc.2
   exact this
  ·omega
 ·rw[zW k]
  split
  ·rename_i d hd'
   have:=hd d (List.mem_of_find?_eq_some hd')
   omega
  ·omega
theorem countP_bd{ds:List Dfn}(hd:∀d∈ds,0<=d.ops/\d.ops<=4097){l:List Row}(hs:Seg l):∀n:Int,0<=n/\n<=4097->0<=countP ds l n/\countP ds l n<=4097:=by
 induction hs with
 |nil=>intro n h;rw[countP_nil];exact h
 |cons h0 h1 h2 h3 h4 ih1 ih2=>
  intro n hn
  rw[countP_cons]
  have:=countK_bd hd (ih1 0 (by omega)) h2
  exact ih2 _ (by omega)
structure RT (h:AH) (xr:AV) (rs:List (Row×AV)):Prop where
 r:SlR encRA 6 42 h xr rs
 a:∀y∈rs,SlR Arg.enc 2 44 h y.2 y.1.args/\y.1.args.length<=100000000
 n:rs.length<=100000000
theorem RT.fr0{h h':AH}{xr:AV}{rs:List (Row×AV)}(a:RT h xr rs)(f:Fr h h' fun _=>False):RT h' xr rs:=⟨a.r.fr0 f,fun y hy=>⟨(a.a y hy).1.fr0 f,(a.a y hy).2⟩,a.n⟩
theorem RT.frT{h h':AH}{xr:AV}{rs:List (Row×AV)}{n0:Nat}(a:RT h xr rs)(f:Fr h h' (TW TP n0 h)):RT h' xr rs:=⟨a.r.frT f rfl,fun y hy=>⟨(a.a y hy).1.frT f rfl,(a.a y hy).2⟩,a.n⟩
theorem RT.one{h:AH}{xr:AV}{rs:List (Row×AV)}(a:RT h xr rs){y:Row×AV}{i:Nat}(hy:rs[i]?=some y):(encRA y).all oneA=true:=encRA_1 (a.a y (zP hy)).1
section
variable {M:Nat->Prop} {R:AE->AH->Prop} {p:Nat} {xr:AV} {bk:Bk} {ids:List Nat} {qm bm gm:Nat} {pl:Int} {rs:List (Row×AV)}
structure CtH (h:AH) (p:Nat) (xr:AV) (rs:List (Row×AV)) (bk:Bk) (ids:List Nat) (qm bm gm:Nat):Prop where
 p:∃cs,h.obj p=some (mkO cs 9 66)/\cs[0]?=some xr/\cs[3]?=some (.mp gm)
 r:RT h xr rs
 m:PM h bk ids qm bm gm
theorem CtH.fr0{h h':AH}(a:CtH h p xr rs bk ids qm bm gm)(f:Fr h h' fun _=>False):CtH h' p xr rs bk ids qm bm gm:=by
 obtain⟨cs,h1,h2⟩:=a.p
 exact⟨⟨cs,f.ob0 h1,h2⟩,a.r.fr0 f,a.m.fr0 f⟩
theorem count_ok(hd:∀d∈bk.ds,0<=d.ops/\d.ops<=4097)(n:Nat):∀{h:AH}{M:Nat->Prop}{R:AE->AH->Prop}{a:Nat}(_:CtH h p xr rs bk ids qm bm gm)(_:a+n<=rs.length)(_:Seg (sg rs a n))
  (_:∀h',Fr h h' (fun _=>False)->R (.ret (I (countP bk.ds (sg rs a n) 0))) h'),ACalls Try.prog 40 [.ptr p 0,I a,I (a+n)] h M R:=by
 induction n using Nat.strongRecOn with
 |ind n ih=>
 intro h M R a hc hn hs hR
 apply F40.callsN
 unfold F40.n19 F40.n18 F40.n17 F40.n16
 have hlen:=hc.r.n
 refine vLoop_of (ι:=Nat×Int) (fun i v h'=>v=[.ptr p 0,I (a+n),I i.2,I (a+(n-i.1:Nat):Int)]/\i.1<=n/\(0<=i.2/\i.2<=4097)/\Seg (sg rs (a+(n-i.1)) i.1)/\countP bk.ds (sg rs (a+(n-i.1)) i.1) i.2=countP bk.ds (sg rs a n) 0/\Fr h h' (fun _=>False)) (fun i=>i.1) (n,0) ⟨by simp,zU _,by omega,by simpa using hs,by simp,Fr.refl⟩ ?_
 rintro K ⟨m,acc⟩ v h1 ⟨rfl,hm,hacc,hsg,heq,f1⟩ step
 simp only at hm hacc hsg heq
 have hc1:=hc.fr0 f1
 unfold F40.g1_
 simp only[zN,zO,F40.n15,pBin_lss]
 cases m with
 |zero=>
  have e1:decide ((a:Int)+(n-0:Nat)<a+n)=false:=by simp
  rw[sg_0,countP_nil]at heq
  simp only[e1,F40.n14,aIf_b,zE,zD,zC,zH,zV,F40.n1,zN]
  rw[heq]
  simpa using hR h1 f1
 |succ m=>
  obtain⟨j,hj⟩:∃j,j=a+(n-(m+1)):=⟨_,rfl⟩
  have ej:(a:Int)+(n-(m+1):Nat)=(j:Int):=by omega
  have e1:decide ((j:Int)<a+n)=true:=by simp;omega
  rw[<-hj]at hsg heq
  obtain⟨y,hy⟩:∃y,rs[j]?=some y:=⟨rs[j]'(by omega),zJ _⟩
  rw[sg_s hy]at hsg heq
  rw[countP_cons]at heq
  obtain⟨⟨b0,b1⟩,b2,b3,b4⟩:=hsg.inv
  rw[sg_len (by omega)]at b1
  obtain⟨k,hk⟩:∃k:Nat,y.1.rows=k:=⟨y.1.rows.toNat,by omega⟩
  have hkm:k<=m:=by omega
  rw[hk,zY,sg_take hkm]at b3
  rw[hk,zY,sg_drop]at b4
  rw[hk,zY,sg_take hkm,sg_drop]at heq
  obtain⟨cs,hp,c0,c3⟩:=hc1.p
  simp only[e1,ej,F40.n14,aIf_b,zD,zF,zC,zI,F40.n13,pNil_ptr,pFld_ptr,lLd_f,hp,ldk_mk,zG,c0,cellK_some]
  refine rng_var hc1.r.r encRA_len (hc1.r.one hy) hy rfl rfl (fun id hid=>.inr (zR f1.next hid)) fun vr h2 f2 _ or_=>?_
  have f02:=f1.tr0 f2
  have hc2:=hc1.fr0 f2
  have hcb:=countP_bd hd b3 0 (by omega)
  have hkb:=countK_bd (ds:=bk.ds) (r:=y.1) (c:=countP bk.ds (sg rs (j+1) k) 0) hd hcb b2
  have w1:∀x:Int,0<=x/\x<=1000000000->IntKind.i64.wrap x=x:=fun x hx=>wrap_in (by omega) (by omega)
  have em2:∀x:Int,(if (4097:Int)<x then 4097 else x)=min x 4097:=fun x=>by split<;>omega
  have last:∀h3,Fr h h3 (fun _=>False)->F40.n3 (fun id=>M id\/h.next<=id) (retV Try.prog [.tmp 6] R) K (fun(i:Nat) (vs:List AV) (h:AH)=>if i=0 then F40.n1 (fun id=>M id\/h.next<=id) (retV Try.prog [.tmp 6] R) (retV Try.prog [.tmp 6] R) (fun _ _ _=>False) (fun v h=>R (.pan v) h) (vs.getD 0 noA) h else False) (fun v h=>R (.pan v) h) (.ptr p 0) (I (a+n)) (I acc) (I j) (I (countK bk.ds y.1 (countP bk.ds (sg rs (j+1) k) 0))) h3:=fun h3 f3=>by
   obtain⟨cs3,hp3,c30,c33⟩:=(hc.fr0 f3).p
   simp only[F40.n3,pBin_add,w1 (acc+countK bk.ds y.1 (countP bk.ds (sg rs (j+1) k) 0)) (by omega),pMM,zH,zV,em2,F40.n2,pNil_ptr,pFld_ptr,lLd_f,hp3,ldk_mk,zG,c30,cellK_some]
   refine rng_fld (k:=4) (hc.fr0 f3).r.r encRA_len hy (by omega) rfl fun _=>?_
   rw[hk]
   simp only[pBin_add,w1 (1+(k:Int)) (by omega),w1 ((j:Int)+(1+k)) (by omega)]
   refine step (m-k,min (acc+countK bk.ds y.1 (countP bk.ds (sg rs (j+1) k) 0)) 4097) _ h3 (by simp only;omega) ⟨?_,by simp only;omega,?_,?_,?_,f3⟩
   ·have e9:(j:Int)+(1+k)=a+(n-(m-k):Nat):=by omega
    rw[<-e9]
   ·simp only;omega
   ·have e8:j+1+k=a+(n-(m-k)):=by omega
    rw[e8]at b4;exact b4
   ·have e8:j+1+k=a+(n-(m-k)):=by omega
    rw[e8]at heq
    exact heq
  have e4:(⟨#[114,101,112,101,97,116]⟩:ByteArray)=sRepeat:=rfl
  simp only[F40.n12,F40.n11,pFld_ptr,lLd_f,or_,ldk_mk,zG,encRA,zA,zB,cellK_some,pBin_seql,e4]
  by_cases k1:y.1.kind=sRepeat
  ·have hnum:=b2 k1
   simp only[zL k1,F40.n10,aIf_b,zD,zF,zC,zI,F40.n6,pBin_add,pFld_ptr,lLd_f,or_,ldk_mk,zG,encRA,zA,zB,cellK_some,hk,w1 ((j:Int)+1) (by omega),w1 ((j:Int)+1+k) (by omega)]
   refine⟨fun _=>False,fun _ h=>h.elim,ih k (by omega) (a:=j+1) hc2 (by omega) b3 fun h3 f3=>?_⟩
   have l3:=last h3 (f02.tr0 f3)
   unfold countK at l3
   rw[zX k1]at l3
   simp only[F40.n5,pBin_gtr,gt_iff_lt]
   by_cases k2:0<countP bk.ds (sg rs (j+1) k) 0
   ·rw[zX k2]at l3
    have hmm:=mul_bd (a:=min y.1.num 4097) (by omega) (by omega) hcb.1 hcb.2
    simp only[zL k2,F40.n4,aIf_b,zD,zF,zC,zI,pFld_ptr,lLd_f,f3.ob0 or_,ldk_mk,zG,encRA,zA,zB,cellK_some,pMM,zH,zV,em2,pBin_mul,w1 (min y.1.num 4097*countP bk.ds (sg rs (j+1) k) 0) (by omega)]
    exact l3
   ·rw[zW k2]at l3
    simp only[zK k2,F40.n4,aIf_b,zE,zD,zC,zH]
    exact l3
  ·have l2:=last h2 f02
   unfold countK at l2
   rw[zW k1]at l2
   obtain⟨cs2,hp2,c20,c23⟩:=hc2.p
   simp only[zK k1,F40.n10,aIf_b,zE,zD,zC,zH,F40.n9,pNil_ptr,pFld_ptr,lLd_f,hp2,or_,ldk_mk,zG,c23,encRA,zA,zB,cellK_some]
   refine look_k (enc:=Sb) key9 z87 hc2.m.g fun _=>?_
   rcases getK_dfn (n:=y.1.name) hc2.m.len with⟨e1,e2⟩ |⟨kk,d,id,e1,e2,hkd,hki⟩
   ·rw[e2]at l2
    rw[e1]
    simp only[lookV,zV,pExt_tup,zA,zB,cellK_some,F40.n8,F40.n7,aIf_b,zE,zD,zC,zH]
    exact l2
   ·rw[e2]at l2
    rw[e1]
    obtain⟨xp,od,_⟩:=hc2.m.d kk d id hkd hki
    simp only[lookV,zV,pExt_tup,zA,zB,cellK_some,F40.n8,F40.n7,aIf_b,zD,zF,zC,zI,pNil_ptr,pFld_ptr,lLd_f,od,ldk_mk,zG]
    exact l2
end
end
section
open Go.Ab
def core(d:Dfn):ByteArray×List ByteArray×Int×Int:=(d.name,d.params,d.from_,d.to_)
structure BkI (bk:Bk):Prop where
 ok:BkOK bk
 nd:(bk.ds.map (·.name)).Nodup
def Ext(bk bk':Bk):Prop:=∃l,bk'.ds.map core=bk.ds.map core++l
theorem Ext.refl{bk:Bk}:Ext bk bk:=⟨[],by simp⟩
theorem Ext.trans{a b c:Bk}(h1:Ext a b)(h2:Ext b c):Ext a c:=by
 obtain⟨l1,e1⟩:=h1
 obtain⟨l2,e2⟩:=h2
 exact⟨l1++l2,by rw[e2,e1,List.append_assoc]⟩
theorem Ext.at_{a b:Bk}(h:Ext a b){k:Nat}{d:Dfn}(hd:a.ds[k]?=some d):∃d',b.ds[k]?=some d'/\core d'=core d:=by
 obtain⟨l,e⟩:=h
 have h1:(b.ds.map core)[k]?=some (core d):=by
  rw[e,List.getElem?_append_left (by rw[zZ];exact(zM.1 hd).1),List.getElem?_map,hd];rfl
 rw[List.getElem?_map]at h1
 cases hb:b.ds[k]? with
 |none=>rw[hb]at h1;cases h1
 |some d'=>rw[hb]at h1;exact⟨d',rfl,Option.some.inj h1⟩
theorem map_modify{β:Type}{f:Dfn->Dfn}{g:Dfn->β}(hf:∀d,g (f d)=g d)(l:List Dfn)(k:Nat):(l.modify k f).map g=l.map g:=by
 induction l generalizing k with
 |nil=>simp
 |cons d l ih=>cases k with
  |zero=>simp[hf]
  |succ k=>simp[ih]
theorem mem_modify{f:Dfn->Dfn}{l:List Dfn}{k:Nat}{d:Dfn}(h:d∈l.modify k f):d∈l\/∃e∈l,d=f e:=by
 obtain⟨i,hi⟩:=List.mem_iff_getElem?.1 h
 rw[getElem?_modify']at hi
 by_cases hk:k=i
 ·rw[zX hk]at hi
  cases he:l[i]? with
  |none=>rw[he]at hi;cases hi
  |some e=>rw[he]at hi;exact .inr ⟨e,zP he,(Option.some.inj hi).symm⟩
 ·rw[zW hk]at hi
  exact .inl (zP hi)
theorem BkI.modify{bk:Bk}(a:BkI bk){k:Nat}{f:Dfn->Dfn}(hf:∀d,core (f d)=core d)(hd:∀d∈bk.ds,0<=(f d).depth/\(f d).depth<=100/\0<=(f d).ops/\(f d).ops<=4097):BkI { bk with ds:=bk.ds.modify k f }/\Ext bk { bk with ds:=bk.ds.modify k f }:=by
 have hn:∀d,(f d).name=d.name:=fun d=>congrArg (·.1) (hf d)
 have hp:∀d,(f d).params=d.params:=fun d=>congrArg (·.2.1) (hf d)
 refine⟨⟨⟨a.ok.tq,a.ok.tb,a.ok.sq,a.ok.sb,fun d h=>?_⟩,?_⟩,[],?_⟩
 ·rcases mem_modify h with h1 |⟨e,h1,rfl⟩
  ·exact a.ok.ds d h1
  ·rw[hp];exact⟨(a.ok.ds e h1).1,hd e h1⟩
 ·simp only
  rw[map_modify hn];exact a.nd
 ·simp only[List.append_nil]
  rw[map_modify hf]
theorem regs_app{l:List Reg}{n:ByteArray}{s:Int}(ht:0<=totalR l)(h:∀r∈l,1<=r.size/\0<=r.from_/\r.from_+r.size<=totalR l)(hs:1<=s):∀r∈l++[⟨n,totalR l,s⟩],1<=r.size/\0<=r.from_/\r.from_+r.size<=totalR (l++[⟨n,totalR l,s⟩]):=by
 intro r hr
 rw[totalR_app]
 rcases List.mem_append.1 hr with hr |hr
 ·have:=h r hr;simp only;omega
 ·have:=List.mem_singleton.1 hr
  subst this
  simp only;omega
theorem declP_ok{bk:Bk}{l l':List Reg}{r:Row}(ht:0<=totalR l/\totalR l<=64)(h:∀r∈l,1<=r.size/\0<=r.from_/\r.from_+r.size<=totalR l)(hd:declP bk l 64 r=.ok l'):(0<=totalR l'/\totalR l'<=64)/\∀r∈l',1<=r.size/\0<=r.from_/\r.from_+r.size<=totalR l':=by
 unfold declP at hd
 split at hd
 ·cases hd
 split at hd
 ·cases hd
 split at hd
 ·cases hd
 cases hd
 refine⟨?_,regs_app ht.1 h (by omega)⟩
 rw[totalR_app];simp only;omega
theorem dfnOf_none{l:List Dfn}{n:ByteArray}(h:dfnOf l n=none):∀d∈l,d.name≠n:=fun d hd he=>by
 unfold dfnOf at h
 rw[List.find?_eq_none]at h
 exact h d hd (by simpa using he)
theorem takenB_no{bk:Bk}{n:ByteArray}(h:takenB bk n=false):regOf bk.qs n=none/\regOf bk.bs n=none/\dfnOf bk.ds n=none/\¬0<arityT n:=by
 unfold takenB at h
 simp only[Bool.or_eq_false_iff,decide_eq_false_iff_not]at h
 refine⟨?_,?_,?_,h.2⟩
 ·simpa using h.1.1.1
 ·simpa using h.1.1.2
 ·simpa using h.1.2
theorem defP_ok{bk bk':Bk}{r:Row}{i:Int}(a:BkI bk)(hl:r.args.length<=100000000)(h:defP bk r i=.ok bk'):BkI bk'/\Ext bk bk'/\bk'={ bk with ds:=bk.ds++[⟨r.name,r.args.map (·.name),i+1,i+1+r.rows,1,0,false⟩] }/\takenB bk r.name=false:=by
 unfold defP at h
 split at h
 ·cases h
 rename_i ht
 split at h
 ·cases h
 split at h
 ·cases h
 split at h
 ·cases h
 cases h
 have ht:takenB bk r.name=false:=by simpa using ht
 refine⟨⟨⟨a.ok.tq,a.ok.tb,a.ok.sq,a.ok.sb,fun d hd=>?_⟩,?_⟩,⟨_,List.map_append⟩,rfl,ht⟩
 ·rcases List.mem_append.1 hd with hd |hd
  ·exact a.ok.ds d hd
  ·have:=List.mem_singleton.1 hd
   subst this
   refine⟨by simpa using hl,?_⟩
   simp only;omega
 ·simp only[List.map_append,List.map_cons,List.map_nil]
  rw[List.nodup_append]
  refine⟨a.nd,by simp,fun x hx y hy=>?_⟩
  have hy:=List.mem_singleton.1 hy
  subst hy
  obtain⟨d,hd,rfl⟩:=List.mem_map.1 hx
  exact dfnOf_none (takenB_no ht).2.2.1 d hd
theorem useP_ok{bk bk':Bk}{r:Row}{own:Option Nat}(a:BkI bk)(h:useP bk own r=.ok bk'):BkI bk'/\Ext bk bk'/\bk'.ds.length=bk.ds.length:=by
 unfold useP at h
 split at h
 ·cases h
 split at h
 ·cases h
 split at h
 ·cases h
 split at h
 ·cases h
 split at h
 ·cases h
 split at h
 ·cases h
 rename_i hd
 cases h
 unfold deepen
 cases own with
 |none=>exact⟨a,Ext.refl,rfl⟩
 |some k=>
  simp only[Option.isSome_some,zH]at hd
  have:=a.modify (k:=k) (f:=fun d=>{ d with depth:=max d.depth ((wants bk r.name).2+1) }) (fun _=>rfl) (fun d h=>by have:=a.ok.ds d h;simp only;omega)
  exact⟨this.1,this.2,by simp⟩
theorem rowP_ok{bk bk':Bk}{own:Option Nat}{i:Int}{r:Row}(a:BkI bk)(hl:r.args.length<=100000000)(h:rowP bk own i r=.ok bk'):BkI bk'/\Ext bk bk'/\(r.kind=sRepeat->0<=r.num)/\(r.kind≠sGate->bk'.ds.length=bk.ds.length) /\
  (r.kind=sGate->bk'={ bk with ds:=bk.ds++[⟨r.name,r.args.map (·.name),i+1,i+1+r.rows,1,0,false⟩] }):=by
 unfold rowP at h
 have n1:sQubits≠sRepeat:=by decide
 have n2:sBits≠sRepeat:=by decide
 have n3:sGate≠sRepeat:=by decide
 have m1:sQubits≠sGate:=by decide
 have m2:sBits≠sGate:=by decide
 have same:∀e,errP e bk=.ok bk'->bk'=bk:=fun e h=>by
  unfold errP at h
  split at h<;>cases h
  rfl
 by_cases k1:r.kind=sQubits
 ·rw[zX k1]at h
  cases hd:declP bk bk.qs 64 r with
  |error e=>rw[hd]at h;cases h
  |ok l=>
   rw[hd]at h
   cases h
   obtain⟨h1,h2⟩:=declP_ok a.ok.tq a.ok.sq hd
   exact⟨⟨⟨h1,a.ok.tb,h2,a.ok.sb,a.ok.ds⟩,a.nd⟩,⟨[],by simp⟩,fun e=>absurd (k1.symm.trans e) n1,fun _=>rfl,fun e=>absurd (k1.symm.trans e) m1⟩
 rw[zW k1]at h
 by_cases k2:r.kind=sBits
 ·rw[zX k2]at h
  cases hd:declP bk bk.bs 64 r with
  |error e=>rw[hd]at h;cases h
  |ok l=>
   rw[hd]at h
   cases h
   obtain⟨h1,h2⟩:=declP_ok a.ok.tb a.ok.sb hd
   exact⟨⟨⟨a.ok.tq,h1,a.ok.sq,h2,a.ok.ds⟩,a.nd⟩,⟨[],by simp⟩,fun e=>absurd (k2.symm.trans e) n2,fun _=>rfl,fun e=>absurd (k2.symm.trans e) m2⟩
 rw[zW k2]at h
 by_cases k3:r.kind=sGate
 ·rw[zX k3]at h
  obtain⟨h1,h2,h3,_⟩:=defP_ok a hl h
  exact⟨h1,h2,fun e=>absurd (k3.symm.trans e) n3,fun e=>absurd k3 e,fun _=>h3⟩
 rw[zW k3]at h
 have fin:bk'=bk->(r.kind=sRepeat->0<=r.num)->BkI bk'/\Ext bk bk'/\(r.kind=sRepeat->0<=r.num)/\(r.kind≠sGate->bk'.ds.length=bk.ds.length)/\(r.kind=sGate->bk'={ bk with ds:=bk.ds++[⟨r.name,r.args.map (·.name),i+1,i+1+r.rows,1,0,false⟩] }):=fun e hn=>by
  subst e
  exact⟨a,Ext.refl,hn,fun _=>rfl,fun e=>absurd e k3⟩
 by_cases k4:r.kind=sRepeat
 ·rw[zX k4]at h
  split at h
  ·cases h
  ·cases h
   exact fin rfl (fun _=>by omega)
 rw[zW k4]at h
 have k4':r.kind=sRepeat->0<=r.num:=fun e=>absurd e k4
 by_cases k5:r.kind=sIf
 ·rw[zX k5]at h
  unfold ifP at h
  split at h
  ·cases h
  ·split at h
   ·cases h
   ·cases h
    exact fin rfl k4'
 rw[zW k5]at h
 by_cases k6:r.kind=sUse
 ·rw[zX k6]at h
  obtain⟨h1,h2,h3⟩:=useP_ok a h
  exact⟨h1,h2,k4',fun _=>h3,fun e=>absurd e k3⟩
 rw[zW k6]at h
 by_cases k7:r.kind=sMeasure
 ·rw[zX k7]at h
  unfold measP at h
  split at h
  ·split at h
   ·cases h
   ·exact fin (same _ h) k4'
  ·cases h
 rw[zW k7]at h
 by_cases k8:r.kind=sReset
 ·rw[zX k8]at h
  unfold resetP at h
  split at h
  ·exact fin (same _ h) k4'
  ·cases h
 rw[zW k8]at h
 cases h
 exact fin rfl k4'
theorem formP_0{r:Row}{behind deep:Int}{own:Bool}(h:formP r behind deep own=0):knownK r.kind=true/\(bodyK r.kind=true\/r.rows=0)/\0<=r.rows/\r.rows<=behind/\deep<=32/\(0<deep->declK r.kind=false)/\(own=true->r.kind=sUse\/r.kind=sRepeat):=by
 unfold formP at h
 split at h
 ·cases h
 rename_i h1
 split at h
 ·cases h
 rename_i h2
 split at h
 ·cases h
 rename_i h3
 split at h
 ·cases h
 rename_i h4
 simp at h1 h3 h4
 refine⟨h1.1.1.1,?_,h1.1.2,h1.2,by omega,h3,fun ho=>?_⟩
 ·cases hb:bodyK r.kind with
  |true=>exact .inl rfl
  |false=>exact .inr (h1.1.1.2 hb)
 ·by_cases hu:r.kind=sUse
  ·exact .inl hu
  ·exact .inr (h4 ho hu)
theorem lookP_nil{deep:Nat}{own:Option Nat}{i:Nat}{bk:Bk}:lookP deep own i [] bk=.ok bk:=by rw[lookP]
theorem lookP_cons{deep:Nat}{own:Option Nat}{i:Nat}{r:Row}{rest:List Row}{bk:Bk}:lookP deep own i (r::rest) bk =
  if formP r rest.length deep own.isSome≠0 then .error (r.place,formP r rest.length deep own.isSome)
  else match rowP bk own i r with
   |.error e=>.error (r.place,e)
   |.ok bk1=>match lookP (deep+1) (if r.kind=sGate then some bk.ds.length else own) (i+1) (rest.take r.rows.toNat) bk1 with
    |.error e=>.error e
    |.ok bk2=>lookP deep own (i+1+r.rows.toNat) (rest.drop r.rows.toNat) (if r.kind=sGate then{ bk2 with ds:=setWhole bk2.ds bk.ds.length (countP bk2.ds (rest.take r.rows.toNat) 0) } else bk2):=by
 conv=>lhs;rw[lookP]
 all_goals rfl
theorem closed_ok{bk:Bk}(a:BkI bk){k:Nat}{l:List Row}(hs:Seg l):BkI { bk with ds:=setWhole bk.ds k (countP bk.ds l 0) }/\Ext bk { bk with ds:=setWhole bk.ds k (countP bk.ds l 0) }:=by
 have hb:=countP_bd (ds:=bk.ds) (fun d hd=>(a.ok.ds d hd).2.2.2) hs 0 (by omega)
 exact a.modify (fun _=>rfl) (fun d hd=>by have:=a.ok.ds d hd;simp only;omega)
theorem lookP_ok(n:Nat):∀{deep:Nat}{own:Option Nat}{i:Nat}{rows:List Row}{bk bk':Bk}(_:rows.length=n)(_:∀r∈rows,r.args.length<=100000000)(_:BkI bk)(_:lookP deep own i rows bk=.ok bk'),BkI bk'/\Ext bk bk'/\Seg rows:=by
 induction n using Nat.strongRecOn with
 |ind n ih=>
 intro deep own i rows bk bk' hn hl a h
 cases rows with
 |nil=>rw[lookP_nil]at h;cases h;exact⟨a,Ext.refl,.nil⟩
 |cons r rest=>
  rw[lookP_cons]at h
  split at h
  ·cases h
  rename_i hf
  obtain⟨_,_,f1,f2,_⟩:=formP_0 (Classical.not_not.1 hf)
  split at h
  ·cases h
  rename_i bk1 h1
  split at h
  ·cases h
  rename_i bk2 h2
  obtain⟨a1,x1,g1,g2,g3⟩:=rowP_ok a (hl r (List.mem_cons_self ..)) h1
  rw[List.length_cons]at hn
  obtain⟨a2,x2,s2⟩:=ih _ (by rw[yA];omega) rfl (fun r' hr=>hl r' (List.mem_cons_of_mem _ (List.mem_of_mem_take hr))) a1 h2
  have key:∀bk3,BkI bk3->Ext bk2 bk3->lookP deep own (i+1+r.rows.toNat) (rest.drop r.rows.toNat) bk3=.ok bk'->BkI bk'/\Ext bk bk'/\Seg (r::rest):=fun bk3 a3 x3 h3=>by
   obtain⟨a4,x4,s4⟩:=ih _ (by rw[List.length_drop];omega) rfl (fun r' hr=>hl r' (List.mem_cons_of_mem _ (List.mem_of_mem_drop hr))) a3 h3
   exact⟨a4,x1.trans (x2.trans (x3.trans x4)),.cons f1 f2 g1 s2 s4⟩
  by_cases k:r.kind=sGate
  ·rw[zX k]at h
   obtain⟨a3,x3⟩:=closed_ok a2 (k:=bk.ds.length) s2
   exact key _ a3 x3 h
  ·rw[zW k]at h
   exact key _ a2 Ext.refl h
end
section
open Go.Ab
attribute [-simp] eAlloc_d eStore_f
theorem dfnOf_ops{f:Dfn->Dfn}(h1:∀d,(f d).name=d.name)(h2:∀d,(f d).ops=d.ops)(n:ByteArray):∀(l:List Dfn)(k:Nat),(dfnOf (l.modify k f) n).map (·.ops)=(dfnOf l n).map (·.ops)
 |[],k=>by simp
 |d::l,0=>by
  unfold dfnOf
  simp only[List.modify_zero_cons,List.find?_cons,h1]
  cases decide (d.name=n)
  ·rfl
  ·simp[h2]
 |d::l,k+1=>by
  have ih:=dfnOf_ops h1 h2 n l k
  unfold dfnOf at ih ⊢
  simp only[List.modify_succ_cons,List.find?_cons]
  cases decide (d.name=n)
  ·exact ih
  ·rfl
theorem countP_modify{f:Dfn->Dfn}(h1:∀d,(f d).name=d.name)(h2:∀d,(f d).ops=d.ops){ds:List Dfn}{k:Nat}{l:List Row}(hs:Seg l):∀n,countP (ds.modify k f) l n=countP ds l n:=by
 induction hs with
 |nil=>intro n;rw[countP_nil,countP_nil]
 |cons h0 h1' h2' h3 h4 ih1 ih2=>
  rename_i r l
  intro n
  rw[countP_cons,countP_cons,ih1,ih2]
  have g:∀o o':Option Dfn,o.map (·.ops)=o'.map (·.ops)->(match o with |some d=>d.ops |none=>1)=(match o' with |some d=>d.ops |none=>(1:Int)):=by
   rintro(_ |a) (_ |b) h
   ·rfl
   ·cases h
   ·cases h
   ·exact Option.some.inj h
  have e:∀c,countK (ds.modify k f) r c=countK ds r c:=fun c=>by
   unfold countK
   by_cases kr:r.kind=sRepeat
   ·rw[zX kr,zX kr]
   ·rw[zW kr,zW kr]
    exact g _ _ (dfnOf_ops h1 h2 r.name ds k)
  rw[e]
theorem setWhole_two{ds:List Dfn}{k:Nat}{n:Int}:(ds.modify k (fun d=>{ d with whole:=true })).modify k (fun d=>{ d with ops:=n })=setWhole ds k n:=by
 unfold setWhole
 apply List.ext_getElem?
 intro i
 simp only[getElem?_modify']
 by_cases h:k=i
 ·simp only[zX h,Option.map_map];rfl
 ·simp only[zW h]
theorem nd_ix{l:List Dfn}(h:(l.map (·.name)).Nodup){i j:Nat}{a b:Dfn}(hi:l[i]?=some a)(hj:l[j]?=some b)(he:a.name=b.name):i=j:=by
 obtain⟨h1,h2⟩:=zM.1 hi
 obtain⟨h3,h4⟩:=zM.1 hj
 have hp:=List.pairwise_iff_getElem.1 h
 have g1:(l.map (·.name))[i]'(by simpa using h1)=a.name:=by simp[h2]
 have g2:(l.map (·.name))[j]'(by simpa using h3)=b.name:=by simp[h4]
 rcases Nat.lt_trichotomy i j with hlt |he' |hlt
 ·exact absurd (g1.trans (he.trans g2.symm)) (hp i j (by simpa using h1) (by simpa using h3) hlt)
 ·exact he'
 ·exact absurd (g2.trans (he.symm.trans g1.symm)) (hp j i (by simpa using h3) (by simpa using h1) hlt)
section
variable {h:AH} {n0 p:Nat} {xr x4:AV} {bk:Bk} {ids:List Nat} {qm bm gm:Nat} {pl:Int} {rs:List (Row×AV)} {own:Option Nat}
theorem look_ix(pm:PM h bk ids qm bm gm)(a:BkI bk){k:Nat}{d:Dfn}(hd:bk.ds[k]?=some d):∃id,ids[k]?=some id/\getK d.name (dfnM bk.ds ids)=some (.ptr id 0)/\DfnAt h id d:=by
 rcases getK_dfn (n:=d.name) pm.len with⟨_,e2⟩ |⟨k',d',id,e1,e2,hkd,hki⟩
 ·exact absurd rfl (dfnOf_none e2 d (zP hd))
 ·have hn:d'.name=d.name:=by
   have:=List.find?_some e2
   simpa using this
  have:=nd_ix a.nd hd hkd hn.symm
  subst this
  rw[hd]at hkd;cases hkd
  exact⟨id,hki,e1,pm.d _ _ _ hd hki⟩
theorem PA.setPl(pa:PA n0 h p xr bk ids qm bm gm pl){x:Int}:PA n0 (h.put p 8 [I x]) p xr bk ids qm bm gm x/\Fr h (h.put p 8 [I x]) (TW TP n0 h)/\Fr h (h.put p 8 [I x]) (·=p):=by
 have f1:Fr h (h.put p 8 [I x]) (·=p):=Fr.refl.put (.inl rfl)
 have o1:=put_mk (off:=8) (cs:=[I x]) pa.p
 generalize h.put p 8 [I x]=h1 at *
 have keep:∀{j:Nat}{o:AO},h.obj j=some o->o.ty≠66->h1.obj j=some o:=fun ho hne=>f1.obj ho (obj_ne ho pa.p hne)
 refine⟨⟨pa.n,o1,keep pa.m.q (show(63:Nat)≠66 by decide),keep pa.m.b (show(63:Nat)≠66 by decide),keep pa.m.g (show(64:Nat)≠66 by decide),pa.m.len,fun k d id h1 h2=>(pa.m.d k d id h1 h2).fr f1 fun i o ho ht=>?_,pa.m.nd,pa.m.qb⟩,TW.of_one f1 pa.n.1 pa.p rfl rfl,f1⟩
 exact obj_ne ho pa.p (by rcases ht with h |h<;>rw[h]<;>show _≠(66:Nat)<;>decide)
theorem OwnV.app{l:List Nat}(ho:OwnV ids own x4):OwnV (ids++l) own x4:=by
 cases own with
 |none=>exact ho
 |some k=>
  obtain⟨id,h1,h2⟩:=ho
  exact⟨id,by rw[List.getElem?_append_left (zM.1 h1).1];exact h1,h2⟩
theorem PA.ct(pa:PA n0 h p xr bk ids qm bm gm pl)(rt:RT h xr rs):CtH h p xr rs bk ids qm bm gm:=⟨⟨_,pa.p,rfl,rfl⟩,rt,pa.m⟩
end
def PlAt(h:AH)(p:Nat)(pl:Int):Prop:=∃cs,h.obj p=some (mkO cs 9 66)/\cs[8]?=some (I pl)
theorem PA.plAt{h:AH}{n0 p:Nat}{xr:AV}{bk:Bk}{ids:List Nat}{qm bm gm:Nat}{pl:Int}(pa:PA n0 h p xr bk ids qm bm gm pl):PlAt h p pl:=⟨_,pa.p,rfl⟩
theorem PlAt.fr0{h h':AH}{p:Nat}{pl:Int}(a:PlAt h p pl)(f:Fr h h' fun _=>False):PlAt h' p pl:=by
 obtain⟨cs,h1,h2⟩:=a
 exact⟨cs,f.ob0 h1,h2⟩
theorem rowP_err{bk:Bk}{own:Option Nat}{i:Int}{r:Row}{e:Int}(h:rowP bk own i r=.error e):e≠0:=by
 have de:∀(bk:Bk)(l:List Reg){e:Int},declP bk l 64 r=.error e->e≠0:=fun bk l e h=>by
  unfold declP at h
  split at h
  ·cases h;decide
  split at h
  ·cases h;decide
  split at h
  ·cases h;decide
  cases h
 have er:∀x,errP x bk=.error e->e≠0:=fun x h=>by
  unfold errP at h
  split at h
  ·rename_i h0;cases h;exact h0
  ·cases h
 unfold rowP at h
 split at h
 ·cases hd:declP bk bk.qs 64 r with
  |error e'=>rw[hd]at h;cases h;exact de bk _ hd
  |ok l=>rw[hd]at h;cases h
 split at h
 ·cases hd:declP bk bk.bs 64 r with
  |error e'=>rw[hd]at h;cases h;exact de bk _ hd
  |ok l=>rw[hd]at h;cases h
 split at h
 ·unfold defP at h
  split at h
  ·cases h;decide
  split at h
  ·cases h;decide
  split at h
  ·cases h;decide
  split at h
  ·cases h;decide
  cases h
 split at h
 ·split at h
  ·cases h;decide
  ·cases h
 split at h
 ·unfold ifP at h
  split at h
  ·cases h;decide
  ·split at h
   ·cases h;decide
   ·cases h
 split at h
 ·unfold useP at h
  split at h
  ·cases h;decide
  split at h
  ·cases h;decide
  split at h
  ·cases h;decide
  split at h
  ·rename_i h0;cases h;exact h0
  split at h
  ·cases h;decide
  split at h
  ·cases h;decide
  cases h
 split at h
 ·unfold measP at h
  split at h
  ·split at h
   ·rename_i h0;cases h;exact h0
   ·exact er _ h
  ·cases h;decide
 split at h
 ·unfold resetP at h
  split at h
  ·exact er _ h
  ·cases h;decide
 cases h
theorem lookP_err(n:Nat):∀{deep:Nat}{own:Option Nat}{i:Nat}{rows:List Row}{bk:Bk}{x:Int×Int}(_:rows.length=n)(_:lookP deep own i rows bk=.error x),x.2≠0:=by
 induction n using Nat.strongRecOn with
 |ind n ih=>
 intro deep own i rows bk x hn h
 cases rows with
 |nil=>rw[lookP_nil]at h;cases h
 |cons r rest=>
  rw[List.length_cons]at hn
  rw[lookP_cons]at h
  split at h
  ·rename_i h0;cases h;exact h0
  split at h
  ·rename_i e he;cases h;exact rowP_err he
  split at h
  ·rename_i e he;cases h
   exact ih _ (by rw[yA];omega) rfl he
  ·exact ih _ (by rw[List.length_drop];omega) rfl h
section
variable {p:Nat} {xr:AV} {qm bm gm:Nat} {rs:List (Row×AV)} {n0:Nat}
theorem look_ok(n:Nat):∀{h:AH}{M:Nat->Prop}{R:AE->AH->Prop}{a deep:Nat}{own:Option Nat}{x4:AV}{bk:Bk}{ids:List Nat}{pl:Int}
  (_:PA n0 h p xr bk ids qm bm gm pl) (_:RT h xr rs) (_:BkI bk) (_:OwnV ids own x4) (_:a+n<=rs.length) (_:deep<=33) (_:∀id,TW TP n0 h id->M id)
  (_:∀pl' e h',lookP deep own a (sg rs a n) bk=.error (pl',e)->PlAt h' p pl'->Fr h h' (TW TP n0 h)->R (.ret (I e)) h')
  (_:∀bk' l pl' h',lookP deep own a (sg rs a n) bk=.ok bk'->PA n0 h' p xr bk' (ids++l) qm bm gm pl'->Fr h h' (TW TP n0 h)->R (.ret (I 0)) h'),
  ACalls Try.prog 21 [.ptr p 0,I a,I (a+n),I deep,x4] h M R:=by
 induction n using Nat.strongRecOn with
 |ind n ih=>
 intro h M R a deep own x4 bk0 ids0 pl0 pa0 rt0 bi0 ho0 hn hdeep hM he hk
 apply F21.callsN
 unfold F21.n29 F21.n28 F21.n27
 have hlen:=rt0.n
 refine vLoop_of (ι:=Nat×Bk×List Nat×Int) (fun i v h'=>v=[.ptr p 0,I (a+n),I deep,x4,I (a+(n-i.1:Nat):Int)]/\i.1<=n/\PA n0 h' p xr i.2.1 (ids0++i.2.2.1) qm bm gm i.2.2.2/\BkI i.2.1/\lookP deep own (a+(n-i.1)) (sg rs (a+(n-i.1)) i.1) i.2.1=lookP deep own a (sg rs a n) bk0/\Fr h h' (TW TP n0 h)) (fun i=>i.1) (n,bk0,[],pl0) ⟨by simp,zU _,by simpa using pa0,bi0,by simp,TW.of_fr Fr.refl⟩ ?_
 rintro K ⟨m,bk,lids,pl⟩ v h1 ⟨rfl,hm,pa,bi,heq,f1⟩ step
 simp only at hm pa bi heq
 have rt1:=rt0.frT f1
 have ho:=ho0.app (l:=lids)
 unfold F21.g1_
 simp only[zN,zO,F21.n26,pBin_lss]
 cases m with
 |zero=>
  have e1:decide ((a:Int)+(n-0:Nat)<a+n)=false:=by simp
  rw[sg_0,lookP_nil]at heq
  simp only[e1,F21.n25,aIf_b,zE,zD,zC,zH,zV,F21.n1]
  simpa using hk bk lids pl h1 heq.symm pa f1
 |succ m=>
  obtain⟨j,hj⟩:∃j,j=a+(n-(m+1)):=⟨_,rfl⟩
  have ej:(a:Int)+(n-(m+1):Nat)=(j:Int):=by omega
  have e1:decide ((j:Int)<a+n)=true:=by simp;omega
  rw[<-hj]at heq
  obtain⟨y,hy⟩:∃y,rs[j]?=some y:=⟨rs[j]'(by omega),zJ _⟩
  rw[sg_s hy,lookP_cons,sg_len (by omega)]at heq
  have hya:=rt1.a y (zP hy)
  have hW1:∀id,h1.next<=id->(M id\/h.next<=id):=fun id hid=>.inr (zR f1.next hid)
  have hM1:∀{h2:AH},Fr h h2 (TW TP n0 h)->∀id,TW TP n0 h2 id->(M id\/h.next<=id):=fun f id hid=>(TW.back f hid).elim (fun h=>.inl (hM id h)) .inr
  have w1:∀x:Int,0<=x/\x<=1000000000->IntKind.i64.wrap x=x:=fun x hx=>wrap_in (by omega) (by omega)
  simp only[e1,ej,F21.n25,aIf_b,zD,zF,zC,zI,F21.n24,pNil_ptr,pFld_ptr,lLd_f,pa.p,ldk_mk,zG,zA,cellK_some]
  refine rng_var rt1.r encRA_len (rt1.one hy) hy rfl rfl hW1 fun vr h2 f2 _ or2=>?_
  have f02:=TW.trans f1 (TW.of_fr f2)
  have pa2:=pa.fr0 f2
  simp only[F21.n23,pFld_ptr,lLd_f,or2,ldk_mk,zG,encRA,zA,zB,cellK_some,pNil_ptr,eStore_f,pa2.p,avC_int,stk_mk]
  refine⟨⟨.inl (hM p ⟨pa0.n.1,_,pa0.p,rfl,rfl⟩),rfl,rfl,by simp⟩,?_⟩
  obtain⟨pa3,f3,g3⟩:=pa2.setPl (x:=y.1.place)
  generalize h2.put p 8 [I y.1.place]=h3 at *
  have f03:=TW.trans f02 f3
  have or3:=g3.obj or2 (obj_ne or2 pa2.p (show(42:Nat)≠66 by decide))
  have rt3:=rt0.frT f03
  have hya3:=rt3.a y (zP hy)
  unfold F21.n22
  refine var_ld or3 rfl fun _=>?_
  have eb:IntKind.i64.wrap ((a:Int)+n-j)=(m:Int)+1:=by
   have:(a:Int)+n-j=m+1:=by omega
   rw[this];exact w1 _ (by omega)
  have eb2:IntKind.i64.wrap ((m:Int)+1-1)=m:=by
   have:(m:Int)+1-1=m:=by omega
   rw[this];exact w1 _ (by omega)
  simp only[pBin_sub,eb,eb2]
  refine⟨fun _=>False,fun _ h=>h.elim,form_ok pa3.m hya3.1 ho fun h4 f4=>?_⟩
  have f04:=TW.trans f03 (TW.of_fr f4)
  simp only[F21.n21,pBin_neq]
  by_cases k1:formP y.1 m deep own.isSome=0
  ·rw[zW (by simpa using k1)]at heq
   have k1':(formP y.1 m deep own.isSome != 0)=false:=by simp[k1]
   obtain⟨_,_,b0,b1,bdp,_,_⟩:=formP_0 k1
   obtain⟨k,hk'⟩:∃k:Nat,y.1.rows=k:=⟨y.1.rows.toNat,by omega⟩
   have hkm:k<=m:=by omega
   rw[hk',zY,sg_take hkm,sg_drop]at heq
   have or4:=f4.ob0 or3
   have pa4:=pa3.fr0 f4
   have rt4:=rt0.frT f04
   have hya4:=rt4.a y (zP hy)
   simp only[k1',F21.n20,aIf_b,zE,zD,zC,zH,F21.n18]
   refine var_ld or4 rfl fun _=>?_
   refine⟨TW TP n0 h4,fun id hs _=>hM1 f04 id hs,row_ok pa4 bi.ok ho hya4.1 hya4.2 (by omega) (by omega) (fun _ h=>h) ?_ ?_⟩
   ·intro e h5 hr f5
    rw[hr]at heq
    have f05:=TW.trans f04 (TW.of_fr f5)
    have h0:e≠0:=rowP_err hr
    have h0':(e != 0)=true:=by simp[h0]
    simp only[F21.n17,pBin_neq,h0',F21.n16,aIf_b,zD,zF,zC,zI,F21.n15]
    simpa using he y.1.place e h5 heq.symm (pa4.plAt.fr0 f5) f05
   ·intro bk1 ids1 h5 hr pa5 hids f5
    rw[hr]at heq
    simp only at heq
    have f05:=TW.trans f04 f5
    obtain⟨bi1,x1,_,g2,g3'⟩:=rowP_ok bi hya4.2 hr
    have or5:h5.obj vr=some (mkO (encRA y) 6 42):=TW.obj f5 or4 rfl
    have rt5:=rt0.frT f05
    obtain⟨l1,rfl⟩:∃l1,ids1=ids0++(lids++l1):=by
     rcases hids with rfl |⟨id,rfl⟩
     ·exact⟨[],by simp⟩
     ·exact⟨[id],by simp⟩
    have ho5:=ho0.app (l:=lids++l1)
    have last:∀bk3 l3 pl3 h7,PA n0 h7 p xr bk3 (ids0++l3) qm bm gm pl3->BkI bk3->h7.obj vr=some (mkO (encRA y) 6 42)->lookP deep own (j+1+k) (sg rs (j+1+k) (m-k)) bk3=lookP deep own a (sg rs a n) bk0->Fr h h7 (TW TP n0 h) ->
      F21.n2 (fun id=>M id\/h.next<=id) (retV Try.prog [.tmp 10] R) K (fun(i:Nat) (vs:List AV) (h:AH)=>if i=0 then F21.n1 (fun id=>M id\/h.next<=id) (retV Try.prog [.tmp 10] R) (retV Try.prog [.tmp 10] R) (fun _ _ _=>False) (fun v h=>R (.pan v) h) h else False) (fun v h=>R (.pan v) h) (.ptr p 0) (I (a+n)) (I deep) x4 (I j) (.ptr vr 0) h7:=fun bk3 l3 pl3 h7 pa7 bi7 or7 hl7 f07=>by
     simp only[F21.n2,pFld_ptr,lLd_f,or7,ldk_mk,zG,encRA,zA,zB,cellK_some,hk',pBin_add,w1 (1+(k:Int)) (by omega),w1 ((j:Int)+(1+k)) (by omega)]
     have e8:j+1+k=a+(n-(m-k)):=by omega
     have e9:(j:Int)+(1+k)=a+(n-(m-k):Nat):=by omega
     rw[e8]at hl7
     refine step (m-k,bk3,l3,pl3) _ h7 (by simp only;omega) ⟨by rw[<-e9],by simp only;omega,pa7,bi7,hl7,f07⟩
    have mid:∀inner x15,OwnV (ids0++(lids++l1)) inner x15 ->
      (∀e,lookP (deep+1) inner (j+1) (sg rs (j+1) k) bk1=.error e->lookP deep own a (sg rs a n) bk0=.error e) ->
      (∀bk2 l2 pl2 h6,lookP (deep+1) inner (j+1) (sg rs (j+1) k) bk1=.ok bk2->PA n0 h6 p xr bk2 (ids0++l2) qm bm gm pl2->Fr h h6 (TW TP n0 h)->h6.obj vr=some (mkO (encRA y) 6 42) ->
       F21.n7 (fun id=>M id\/h.next<=id) (retV Try.prog [.tmp 10] R) K (fun(i:Nat) (vs:List AV) (h:AH)=>if i=0 then F21.n1 (fun id=>M id\/h.next<=id) (retV Try.prog [.tmp 10] R) (retV Try.prog [.tmp 10] R) (fun _ _ _=>False) (fun v h=>R (.pan v) h) h else False) (fun v h=>R (.pan v) h) (.ptr p 0) (I (a+n)) (I deep) x4 (I j) (.ptr vr 0) h6) ->
      F21.n11 (fun id=>M id\/h.next<=id) (retV Try.prog [.tmp 10] R) K (fun(i:Nat) (vs:List AV) (h:AH)=>if i=0 then F21.n1 (fun id=>M id\/h.next<=id) (retV Try.prog [.tmp 10] R) (retV Try.prog [.tmp 10] R) (fun _ _ _=>False) (fun v h=>R (.pan v) h) h else False) (fun v h=>R (.pan v) h) (.ptr p 0) (I (a+n)) (I deep) x4 (I j) (.ptr vr 0) x15 h5:=fun inner x15 ho15 herr hok=>by
     simp only[F21.n11,pBin_add,pFld_ptr,lLd_f,or5,ldk_mk,zG,encRA,zA,zB,cellK_some,hk',w1 ((j:Int)+1) (by omega),w1 ((j:Int)+1+k) (by omega),w1 ((deep:Int)+1) (by omega)]
     refine⟨TW TP n0 h5,fun id hs _=>hM1 f05 id hs,ih k (by omega) (a:=j+1) (deep:=deep+1) pa5 rt5 bi1 ho15 (by omega) (by omega) (fun _ h=>h) ?_ ?_⟩
     ·intro pl' e h6 hl6 hp6 f6
      have h0:e≠0:=lookP_err _ rfl hl6
      have h0':(e != 0)=true:=by simp[h0]
      simp only[F21.n10,pBin_neq,h0',F21.n9,aIf_b,zD,zF,zC,zI,F21.n8]
      simpa using he pl' e h6 (herr _ hl6) hp6 (TW.trans f05 f6)
     ·intro bk2 l2 pl2 h6 hl6 pa6 f6
      have h0':((0:Int) != 0)=false:=rfl
      simp only[F21.n10,pBin_neq,h0',F21.n9,aIf_b,zE,zD,zC,zH]
      rw[List.append_assoc]at pa6
      exact hok bk2 _ pl2 h6 hl6 pa6 (TW.trans f05 f6) (TW.obj f6 or5 rfl)
    have eg:(⟨#[103,97,116,101]⟩:ByteArray)=sGate:=rfl
    have h00:((0:Int) != 0)=false:=rfl
    simp only[F21.n17,pBin_neq,h00,F21.n16,aIf_b,zE,zD,zC,zH,F21.n14,F21.n13,pFld_ptr,lLd_f,or5,ldk_mk,zG,encRA,zA,zB,cellK_some,pBin_seql,eg]
    by_cases kg:y.1.kind=sGate
    ·rw[zX kg]at heq
     have eb1:=g3' kg
     obtain⟨d1,ed1⟩:∃d1:Dfn,d1=⟨y.1.name,y.1.args.map (·.name),j+1,j+1+y.1.rows,1,0,false⟩:=⟨_,rfl⟩
     have hd1:bk1.ds[bk.ds.length]?=some d1:=by rw[eb1,ed1];simp
     have hn1:d1.name=y.1.name:=by rw[ed1]
     obtain⟨id1,i1,i2,_⟩:=look_ix pa5.m bi1 hd1
     rw[hn1]at i2
     simp only[zL kg,F21.n12,aIf_b,zD,zF,zC,zI,pNil_ptr,pFld_ptr,lLd_f,pa5.p,or5,ldk_mk,zG,encRA,zA,zB,cellK_some]
     refine look_k (enc:=Sb) key9 z87 pa5.m.g fun _=>?_
     rw[i2]
     simp only[lookV,zE,if_false]
     refine mid (some bk.ds.length) _ ⟨id1,i1,rfl⟩ (fun e h6=>by rw[h6]at heq;exact heq.symm) fun bk2 l2 pl2 h6 hl6 pa6 f06 or6=>?_
     rw[hl6]at heq
     simp only[zX kg]at heq
     obtain⟨bi2,x2,s2⟩:=lookP_ok _ rfl (fun r hr=>by
      unfold sg at hr
      obtain⟨z,hz,rfl⟩:=List.mem_map.1 hr
      exact(rt5.a z (List.mem_of_mem_drop (List.mem_of_mem_take hz))).2) bi1 hl6
     obtain⟨d2,hd2,ec⟩:=x2.at_ hd1
     have hn2:d2.name=y.1.name:=(congrArg (·.1) ec).trans hn1
     have hf2:d2.from_=((j+1:Nat):Int):=by
      have:=congrArg (·.2.2.1) ec
      rw[ed1]at this
      simp only[core]at this
      omega
     have ht2:d2.to_=((j+1:Nat):Int)+(k:Int):=by
      have:=congrArg (·.2.2.2) ec
      rw[ed1]at this
      simp only[core]at this
      omega
     obtain⟨id2,i3,i4,xp,od,hxp⟩:=look_ix pa6.m bi2 hd2
     rw[hn2]at i4
     simp only[F21.n7,pFld_ptr,lLd_f,or6,ldk_mk,zG,encRA,zA,zB,cellK_some,pBin_seql,eg,zL kg,F21.n6,aIf_b,zD,zF,zC,zI,F21.n5,pNil_ptr,pa6.p]
     refine look_k (enc:=Sb) key9 z87 pa6.m.g fun _=>?_
     rw[i4]
     have hid2:=pa6.n.2.2.2.2 id2 (zP i3)
     simp only[lookV,zE,if_false,F21.n4,pNil_ptr,pFld_ptr,eStore_f,od,avC_bool,stk_mk]
     refine⟨⟨hM1 f06 id2 ⟨hid2,_,od,rfl,rfl⟩,rfl,rfl,by simp⟩,?_⟩
     have g7:Fr h6 (h6.put id2 6 [B true]) (·=id2):=Fr.refl.put (.inl rfl)
     have o7:=put_mk (off:=6) (cs:=[B true]) od
     generalize h6.put id2 6 [B true]=h7 at *
     obtain⟨pa7,f7⟩:=pa6.setD (f:=fun d=>{ d with whole:=true }) hd2 i3 hxp (fun _=>rfl) rfl o7 g7
     have f07:=TW.trans f06 f7
     have or7:h7.obj vr=some (mkO (encRA y) 6 42):=TW.obj f7 or6 rfl
     obtain⟨bi7,_⟩:=bi2.modify (k:=bk.ds.length) (f:=fun d=>{ d with whole:=true }) (fun _=>rfl) (fun d hd=>(bi2.ok.ds d hd).2)
     have hd7:(bk2.ds.modify bk.ds.length fun d=>{ d with whole:=true })[bk.ds.length]?=some { d2 with whole:=true }:=by rw[getElem?_modify',zX rfl,hd2];rfl
     obtain⟨xp7,od7,hxp7⟩:=pa7.m.d _ _ _ hd7 i3
     simp only[F21.n3,pNil_ptr,pFld_ptr,lLd_f,od7,ldk_mk,zG,zA,zB,cellK_some,hf2,ht2]
     refine⟨fun _=>False,fun _ h=>h.elim,count_ok (fun d hd=>(bi7.ok.ds d hd).2.2.2) k (pa7.ct (rt0.frT f07)) (by omega) s2 fun h8 f8=>?_⟩
     have ecn:=countP_modify (f:=fun d=>{ d with whole:=true }) (fun _=>rfl) (fun _=>rfl) (ds:=bk2.ds) (k:=bk.ds.length) s2 0
     simp only[ecn]
     have f08:=TW.trans f07 (TW.of_fr f8)
     have pa8:=pa7.fr0 f8
     have od8:=f8.ob0 od7
     have or8:=f8.ob0 or7
     have hxp8:SlL encS 1 9 h8 xp7 d2.params:=hxp7.of_fr f8 fun _ _ h=>h
     generalize hc:countP bk2.ds (sg rs (j+1) k) 0=c at *
     simp only[pNil_ptr,pFld_ptr,eStore_f,od8,avC_int,stk_mk]
     refine⟨⟨hM1 f08 id2 ⟨hid2,_,od8,rfl,rfl⟩,rfl,rfl,by simp⟩,?_⟩
     have g9:Fr h8 (h8.put id2 5 [I c]) (·=id2):=Fr.refl.put (.inl rfl)
     have o9:=put_mk (off:=5) (cs:=[I c]) od8
     generalize h8.put id2 5 [I c]=h9 at *
     obtain⟨pa9,f9⟩:=pa8.setD (f:=fun d=>{ d with ops:=c }) hd7 i3 hxp8 (fun _=>rfl) rfl o9 g9
     have e9:({ bk2 with ds:=(bk2.ds.modify bk.ds.length fun d=>{ d with whole:=true }).modify bk.ds.length fun d=>{ d with ops:=c } }:Bk)={ bk2 with ds:=setWhole bk2.ds bk.ds.length c }:=by rw[setWhole_two]
     rw[e9]at pa9
     have bi9:=(closed_ok bi2 (k:=bk.ds.length) s2).1
     rw[hc]at bi9
     exact last _ _ _ h9 pa9 bi9 (TW.obj f9 or8 rfl) heq (TW.trans f08 f9)
    ·rw[zW kg]at heq
     simp only[zK kg,F21.n12,aIf_b,zE,zD,zC,zH]
     refine mid own x4 ho5 (fun e h6=>by rw[h6]at heq;exact heq.symm) fun bk2 l2 pl2 h6 hl6 pa6 f06 or6=>?_
     rw[hl6]at heq
     simp only[zW kg]at heq
     obtain⟨bi2,x2,s2⟩:=lookP_ok _ rfl (fun r hr=>by
      unfold sg at hr
      obtain⟨z,hz,rfl⟩:=List.mem_map.1 hr
      exact(rt5.a z (List.mem_of_mem_drop (List.mem_of_mem_take hz))).2) bi1 hl6
     simp only[F21.n7,pFld_ptr,lLd_f,or6,ldk_mk,zG,encRA,zA,zB,cellK_some,pBin_seql,eg,zK kg,F21.n6,aIf_b,zE,zD,zC,zH]
     exact last _ _ _ h6 pa6 bi2 or6 heq f06
  ·rw[zX k1]at heq
   have k1':(formP y.1 m deep own.isSome != 0)=true:=by simp[k1]
   simp only[k1',F21.n20,aIf_b,zD,zF,zC,zI,F21.n19]
   simpa using he _ _ h4 heq.symm (pa3.plAt.fr0 f4) f04
end
end
end Go.Proofs.Ytjehibknlmehmaa
