/- What is looked at is good; flat writes out what the plain form says. No condition. -/
import Derived.Test.YtjehibknlmehmaaGreatFa
set_option maxRecDepth 100000
namespace Go.Proofs.YtjehibknlmehmaaGreat
section
open Go.Ab
structure kF (a b:Bk):Prop where
 q:∃l,b.qs=a.qs++l
 bb:∃l,b.bs=a.bs++l
 d:iD a b
theorem kF.refl{a:Bk}:kF a a:=⟨⟨[],by simp⟩,⟨[],by simp⟩,iD.refl⟩
theorem kF.trans{a b c:Bk}(h1:kF a b)(h2:kF b c):kF a c:=by
 obtain⟨⟨q1,e1⟩,⟨b1,e2⟩,d1⟩:=h1
 obtain⟨⟨q2,e3⟩,⟨b2,e4⟩,d2⟩:=h2
 exact⟨⟨q1++q2,by rw[e3,e1,List.append_assoc]⟩,⟨b1++b2,by rw[e4,e2,List.append_assoc]⟩,d1.trans d2⟩
structure ms (bk:Bk):Prop where
 i:li bk
 a:∀d∈bk.ds,cf d.name=0/\ux d.params=false
theorem Dy{l m:List gK}{n:ByteArray}{g:gK}(h:eF l n=some g):eF (l++m) n=some g:=by
 unfold eF at h ⊢
 rw[List.find?_append,h];rfl
theorem y1{l m:List gK}{a:Arg}(h:gU l a=0):gU (l++m) a=0:=by
 unfold gU at h ⊢
 cases hr:eF l a.name with
 |none=>rw[hr]at h;cases h
 |some g=>rw[hr]at h;rw[Dy hr];exact h
theorem ms.modify{bk:Bk}(a:ms bk){k:Nat}{f:bS->bS}(hf:∀d,nX (f d)=nX d)(hd:∀d∈bk.ds,0<=(f d).depth/\(f d).depth<=100/\0<=(f d).ops/\(f d).ops<=4097):ms { bk with ds:=bk.ds.modify k f }/\kF bk { bk with ds:=bk.ds.modify k f }:=by
 obtain⟨h1,h2⟩:=a.i.modify (k:=k) hf hd
 refine⟨⟨h1,fun d h=>?_⟩,⟨[],by simp⟩,⟨[],by simp⟩,h2⟩
 rcases mem_modify h with h3 |⟨e,h3,rfl⟩
 ·exact a.a d h3
 ·rw[show(f e).name=e.name from congrArg (·.1) (hf e),show(f e).params=e.params from congrArg (·.2.1) (hf e)]
  exact a.a e h3
theorem vU{bk:Bk}{n:ByteArray}{d:bS}(h:eB bk.ds n=some d):∃k:Nat,bk.ds[k]?=some d/\d.name=n:=by
 have h1:=List.mem_of_find?_eq_some h
 have h2:=List.find?_some h
 obtain⟨k,hk⟩:=List.mem_iff_getElem?.1 h1
 exact⟨k,hk,by simpa using h2⟩
theorem OA{bk:Bk}(a:li bk){k:Nat}{d:bS}(h:bk.ds[k]?=some d):eB bk.ds d.name=some d:=by
 cases hd:eB bk.ds d.name with
 |none=>exact absurd rfl (sj hd d (zP h))
 |some d'=>
  obtain⟨k',h1,h2⟩:=vU hd
  have:=IX a.nd h h1 h2.symm
  subst this
  rw[h]at h1;exact h1.symm
def v_(bk:Bk)(k:Nat)(r:Row):Prop:=(eB bk.ds r.name=none/\0<cf r.name/\(r.args.length:Int)=cf r.name)\/∃j d,j<k/\bk.ds[j]?=some d/\d.name=r.name/\r.args.length=d.params.length/\cf r.name=0
inductive GB (bk:Bk) (k:Nat) (ps:List ByteArray):List Row->Prop
 |nil:GB bk k ps []
 |Tm {r:Row} {l:List Row} (h0:r.kind=cn) (h1:r.rows=0) (h2:v_ bk k r) (h3:∀a∈r.args,fe a.name ps=true) (h4:GB bk k ps l):GB bk k ps (r::l)
 |Tz {r:Row} {l:List Row} (h0:r.kind=aT) (h1:0<=r.rows/\r.rows<=l.length) (h2:GB bk k ps (l.take r.rows.toNat)) (h3:GB bk k ps (l.drop r.rows.toNat)):GB bk k ps (r::l)
structure OY (bk:Bk) (r:Row):Prop where
 u:r.kind=cn->v_ bk bk.ds.length r/\∀a∈r.args,gU bk.qs a=0
 i:r.kind=eZ->∃g,eF bk.bs r.name=some g/\0<=r.num/\(g.size<63->r.num<2^g.size.toNat)
 m:r.kind=bT->∃a b,r.args=[a,b]/\gU bk.qs a=0/\gU bk.bs b=0
 s:r.kind=cV->∃a,r.args=[a]/\gU bk.qs a=0
inductive GO (bk:Bk):List Row->Prop
 |nil:GO bk []
 |cons {r:Row} {l:List Row} (h0:0<=r.rows/\r.rows<=l.length) (h1:OY bk r) (h2:r.kind=aT\/r.kind=eZ->GO bk (l.take r.rows.toNat)) (h3:GO bk (l.drop r.rows.toNat)):GO bk (r::l)
def JM(bk:Bk)(L:List Row)(k:Nat):Prop:=∀d,bk.ds[k]?=some d->∃a n:Nat,d.from_=a/\d.Hv=a+n/\a+n<=L.length/\GB bk k d.params ((L.drop a).take n)
theorem Aa{f:Arg->Int}:∀{l:List Arg},gq f l=0->∀a∈l,f a=0
 |[],_,a,h=>by cases h
 |b::l,h,a,ha=>by
  unfold gq at h
  split at h
  ·rename_i hb;exact absurd h hb
  ·rename_i hb
   rcases List.mem_cons.1 ha with rfl |ha
   ·exact Classical.not_not.1 hb
   ·exact Aa h a ha
theorem kF.VC{a b:Bk}(m:kF a b){k:Nat}{d:bS}(h:a.ds[k]?=some d):∃d',b.ds[k]?=some d'/\nX d'=nX d:=m.d.at_ h
def T2(bf:Bk)(own:Option Nat):Nat:=own.getD bf.ds.length
theorem Dq{bk bN bf:Bk}{own:Option Nat}{r:Row}(a:ms bk)(ho:∀k,own=some k->k+1=bk.ds.length)(h:kM bk own r=.ok bN)(hm:kF bk bf)(hf:ms bf) :
  v_ bf (T2 bf own) r/\(own=none->∀x∈r.args,gU bf.qs x=0)/\∀k,own=some k->∀d,bf.ds[k]?=some d->∀x∈r.args,fe x.name d.params=true:=by
 unfold kM at h
 split at h
 ·cases h
 rename_i h1
 split at h
 ·cases h
 rename_i h2
 split at h
 ·cases h
 rename_i h3
 split at h
 ·cases h
 rename_i h4
 have h4:=Aa (Classical.not_not.1 h4)
 have h3:=Classical.not_not.1 h3
 refine⟨?_,?_,?_⟩
 ·unfold g_ at h2 h3
  cases hd:eB bk.ds r.name with
  |none=>
   rw[hd]at h2 h3
   simp only at h2 h3
   have hr:=(yu r.name).1
   refine .inl ⟨?_,by omega,h3⟩
   cases tQ:eB bf.ds r.name with
   |none=>rfl
   |some d'=>
    obtain⟨k,g1,g2⟩:=vU tQ
    have:=(hf.a d' (zP g1)).1
    rw[g2]at this;exact absurd this h2
  |some d=>
   rw[hd]at h2 h3
   simp only at h2 h3
   obtain⟨j,g1,g2⟩:=vU hd
   have g3:=(a.a d (zP g1)).1
   rw[g2]at g3
   obtain⟨d',g4,g5⟩:=hm.VC g1
   have n':d'.name=d.name:=congrArg (·.1) g5
   have p':d'.params=d.params:=congrArg (·.2.1) g5
   refine .inr ⟨j,d',?_,g4,n'.trans g2,?_,g3⟩
   ·cases own with
    |none=>exact(zM.1 g4).1
    |some k=>
     have hk:=ho k rfl
     have hj:=(zM.1 g1).1
     have:j≠k:=fun e=>by
      subst e
      apply h1
      unfold mF gV
      simp only[Option.bind_some,g1,g2,decide_true]
     unfold T2;simp only[Option.getD_some];omega
   ·rw[p']
    cases hw:d.whole with
    |true=>rw[hw]at h3;simp only[zV]at h3;omega
    |false=>rw[hw]at h2;simp only[zE,if_false]at h2;exact absurd g3 h2
 ·rintro rfl x hx
  obtain⟨l,e⟩:=hm.q
  rw[e]
  exact y1 (h4 x hx)
 ·rintro k rfl d hd x hx
  have hk:=ho k rfl
  have aL:k<bk.ds.length:=by omega
  obtain⟨d',g4,g5⟩:=hm.VC (zJ aL)
  rw[hd]at g4;cases g4
  have p':d.params=bk.ds[k].params:=congrArg (·.2.1) g5
  have:=h4 x hx
  unfold fh gV at this
  simp only[Option.bind_some,zJ aL]at this
  rw[p']
  split at this
  ·cases this
  ·split at this
   ·assumption
   ·cases this
theorem Ct{bk:Bk}{l l':List gK}{r:Row}(hd:fK bk l 64 r=.ok l'):∃m,l'=l++m:=by
 unfold fK at hd
 split at hd
 ·cases hd
 split at hd
 ·cases hd
 split at hd
 ·cases hd
 cases hd
 exact⟨_,rfl⟩
theorem Dw{bk bN:Bk}{own:Option Nat}{i:Int}{r:Row}(a:ms bk)(hl:r.args.length<=100000000)(h:fO bk own i r=.ok bN):kF bk bN/\ms bN:=by
 obtain⟨b1,x1,_,_,_⟩:=oT a.i hl h
 have same:∀e,lF e bk=.ok bN->bN=bk:=fun e h=>by
  unfold lF at h
  split at h<;>cases h
  rfl
 have fin:bN=bk->kF bk bN/\ms bN:=fun e=>by subst e;exact⟨kF.refl,a⟩
 unfold fO at h
 split at h
 ·cases hd:fK bk bk.qs 64 r with
  |error e=>rw[hd]at h;cases h
  |ok l=>rw[hd]at h;cases h;exact⟨⟨Ct hd,⟨[],by simp⟩,x1⟩,⟨b1,a.a⟩⟩
 split at h
 ·cases hd:fK bk bk.bs 64 r with
  |error e=>rw[hd]at h;cases h
  |ok l=>rw[hd]at h;cases h;exact⟨⟨⟨[],by simp⟩,Ct hd,x1⟩,⟨b1,a.a⟩⟩
 split at h
 ·have hd:=h
  unfold qy at h
  split at h
  ·cases h
  split at h
  ·cases h
  split at h
  ·cases h
  split at h
  ·cases h
  rename_i pZ
  obtain⟨_,_,e,ht⟩:=Il a.i hl hd
  subst e
  refine⟨⟨⟨[],by simp⟩,⟨[],by simp⟩,x1⟩,⟨b1,fun d hd=>?_⟩⟩
  rcases List.mem_append.1 hd with hd |hd
  ·exact a.a d hd
  ·have:=List.mem_singleton.1 hd
   subst this
   have h1:=(Dt ht).2.2.2
   have h2:=(yu r.name).1
   exact⟨by simp only;omega,by simpa using pZ⟩
 split at h
 ·split at h
  ·cases h
  ·cases h;exact fin rfl
 split at h
 ·unfold uQ at h
  split at h
  ·cases h
  ·split at h
   ·cases h
   ·cases h;exact fin rfl
 split at h
 ·unfold kM at h
  split at h
  ·cases h
  split at h
  ·cases h
  split at h
  ·cases h
  split at h
  ·cases h
  split at h
  ·cases h
  split at h
  ·cases h
  cases h
  unfold kD at b1 x1 ⊢
  cases own with
  |none=>exact fin rfl
  |some k=>
   refine⟨⟨⟨[],by simp⟩,⟨[],by simp⟩,x1⟩,⟨b1,fun d hd=>?_⟩⟩
   rcases mem_modify hd with h3 |⟨e,h3,rfl⟩
   ·exact a.a d h3
   ·exact a.a e h3
 split at h
 ·unfold kT at h
  split at h
  ·split at h
   ·cases h
   ·exact fin (same _ h)
  ·cases h
 split at h
 ·unfold mY at h
  split at h
  ·exact fin (same _ h)
  ·cases h
 cases h
 exact fin rfl
theorem Ii{e:Int}{bk bN:Bk}(h:lF e bk=.ok bN):e=0:=by
 unfold lF at h
 split at h
 ·cases h
 ·rename_i h0;exact Classical.not_not.1 h0
theorem Kb{bk bN bf:Bk}{i:Int}{r:Row}(a:ms bk)(h:fO bk none i r=.ok bN)(hm:kF bk bf)(hf:ms bf):OY bf r:=by
 have n1:cn≠bF:=by decide
 have n2:cn≠cE:=by decide
 have n3:cn≠bD:=by decide
 have n4:cn≠aT:=by decide
 have n5:cn≠eZ:=by decide
 have i1:eZ≠bF:=by decide
 have i2:eZ≠cE:=by decide
 have i3:eZ≠bD:=by decide
 have i4:eZ≠aT:=by decide
 have m1:bT≠bF:=by decide
 have m2:bT≠cE:=by decide
 have m3:bT≠bD:=by decide
 have m4:bT≠aT:=by decide
 have m5:bT≠eZ:=by decide
 have m6:bT≠cn:=by decide
 have r1:cV≠bF:=by decide
 have r2:cV≠cE:=by decide
 have r3:cV≠bD:=by decide
 have r4:cV≠aT:=by decide
 have r5:cV≠eZ:=by decide
 have r6:cV≠cn:=by decide
 have r7:cV≠bT:=by decide
 unfold fO at h
 refine⟨fun k=>?_,fun k=>?_,fun k=>?_,fun k=>?_⟩
 ·rw[k,zW n1,zW n2,zW n3,zW n4,zW n5,zX rfl]at h
  obtain⟨h1,h2,_⟩:=Dq a (fun k e=>by cases e) h hm hf
  exact⟨h1,h2 rfl⟩
 ·rw[k,zW i1,zW i2,zW i3,zW i4,zX rfl]at h
  unfold uQ at h
  split at h
  ·cases h
  ·rename_i g hg
   split at h
   ·cases h
   ·rename_i hn
    obtain⟨l,e⟩:=hm.bb
    exact⟨g,by rw[e];exact Dy hg,by omega,fun hs=>by
     have:¬(g.size<63/\2^g.size.toNat<=r.num):=fun h=>hn (.inr h)
     have h2:¬2^g.size.toNat<=r.num:=fun h=>this ⟨hs,h⟩
     exact Int.not_le.1 h2⟩
 ·rw[k,zW m1,zW m2,zW m3,zW m4,zW m5,zW m6,zX rfl]at h
  unfold kT at h
  split at h
  ·rename_i x y hxy
   split at h
   ·cases h
   ·rename_i h0
    obtain⟨l,e⟩:=hm.bb
    obtain⟨l',e'⟩:=hm.q
    exact⟨x,y,hxy,by rw[e'];exact y1 (Classical.not_not.1 h0),by rw[e];exact y1 (Ii h)⟩
  ·cases h
 ·rw[k,zW r1,zW r2,zW r3,zW r4,zW r5,zW r6,zW r7,zX rfl]at h
  unfold mY at h
  split at h
  ·rename_i x hx
   obtain⟨l',e'⟩:=hm.q
   exact⟨x,hx,by rw[e'];exact y1 (Ii h)⟩
  ·cases h
theorem M8{bk bN:Bk}{own:Option Nat}{i:Int}{r:Row}(k:r.kind=cn)(h:fO bk own i r=.ok bN):kM bk own r=.ok bN:=by
 have n1:cn≠bF:=by decide
 have n2:cn≠cE:=by decide
 have n3:cn≠bD:=by decide
 have n4:cn≠aT:=by decide
 have n5:cn≠eZ:=by decide
 unfold fO at h
 rwa [k,zW n1,zW n2,zW n3,zW n4,zW n5,zX rfl]at h
def mX(L:List Row)(a n:Nat):List Row:=(L.drop a).take n
theorem PT{L:List Row}{a n:Nat}{r:Row}(h:L[a]?=some r):mX L a (n+1)=r::mX L (a+1) n:=by
 obtain⟨h1,h2⟩:=zM.1 h
 unfold mX
 rw[List.drop_eq_getElem_cons h1,h2,List.take_succ_cons]
theorem vt{L:List Row}{a n k:Nat}(h:k<=n):(mX L a n).take k=mX L a k:=by
 unfold mX
 rw[List.take_take,Nat.min_eq_left h]
theorem Ao{L:List Row}{a n k:Nat}:(mX L a n).drop k=mX L (a+k) (n-k):=by
 unfold mX
 rw[List.drop_take,List.drop_drop]
theorem CN{L:List Row}{a n:Nat}(h:a+n<=L.length):(mX L a n).length=n:=by
 unfold mX
 rw[yA,List.length_drop];omega
theorem po{rs:List (Row×AV)}{a n:Nat}:sg rs a n=mX (rs.map (·.1)) a n:=by
 unfold sg mX
 rw[List.map_take,List.map_drop]
theorem vJ{L:List Row}(hL:∀r∈L,r.args.length<=100000000)(n:Nat):∀{deep:Nat}{own:Option Nat}{i:Nat}{bk bN:Bk}(_:i+n<=L.length)(_:ms bk)(_:∀k,own=some k->k+1=bk.ds.length/\0<deep)(_:eM deep own i (mX L i n) bk=.ok bN),
  ms bN/\kF bk bN/\(0<deep->bN.ds.length=bk.ds.length)/\∀bf,kF bN bf->ms bf->(own=none->GO bf (mX L i n))/\(∀k d,own=some k->bf.ds[k]?=some d->GB bf k d.params (mX L i n))/\∀k,bk.ds.length<=k->k<bN.ds.length->JM bf L k:=by
 induction n using Nat.strongRecOn with
 |ind n ih=>
 intro deep own i bk bN hn a ho h
 cases n with
 |zero=>
  have e0:mX L i 0=[]:=rfl
  rw[e0,jI]at h
  cases h
  exact⟨a,kF.refl,fun _=>rfl,fun bf _ _=>⟨fun _=>.nil,fun _ _ _ _=>.nil,fun k h1 h2=>by omega⟩⟩
 |succ m=>
  obtain⟨r,hr⟩:∃r,L[i]?=some r:=⟨L[i]'(by omega),zJ _⟩
  rw[PT hr,kc,CN (by omega)]at h
  rw[PT hr]
  split at h
  ·cases h
  rename_i hf
  obtain⟨f0,f00,f1,f2,_,f3,f4⟩:=u6 (Classical.not_not.1 hf)
  split at h
  ·cases h
  rename_i lS h1
  split at h
  ·cases h
  rename_i fc h2
  have FW:=hL r (zP hr)
  obtain⟨b1,x1,g1,g2,g3⟩:=oT a.i FW h1
  obtain⟨m1,a1⟩:=Dw a FW h1
  obtain⟨k,hk⟩:∃k:Nat,r.rows=k:=⟨r.rows.toNat,by omega⟩
  have lQ:k<=m:=by omega
  rw[hk,zY,vt lQ,Ao]at h
  rw[hk,zY,vt lQ]at h2
  have lC:∀j,(if r.kind=bD then some bk.ds.length else own)=some j->j+1=lS.ds.length/\0<deep+1:=fun j hj=>by
   by_cases kg:r.kind=bD
   ·rw[zX kg]at hj
    cases hj
    rw[g3 kg]
    exact⟨by simp,by omega⟩
   ·rw[zW kg]at hj
    exact⟨by rw[g2 kg];exact(ho j hj).1,by omega⟩
  obtain⟨a2,m2,l2,q2⟩:=ih k (by omega) (by omega) a1 lC h2
  have l2:=l2 (by omega)
  have key:∀lh,ms lh->kF fc lh->lh.ds.length=fc.ds.length->eM deep own (i+1+k) (mX L (i+1+k) (m-k)) lh=.ok bN->ms bN/\kF bk bN/\(0<deep->bN.ds.length=bk.ds.length)/\∀bf,kF bN bf->ms bf->(own=none->GO bf (r::mX L (i+1) m))/\(∀k d,own=some k->bf.ds[k]?=some d->GB bf k d.params (r::mX L (i+1) m))/\∀k,bk.ds.length<=k->k<bN.ds.length->JM bf L k:=fun lh a3 m3 l3 h3=>by
   have HZ:∀j,own=some j->j+1=lh.ds.length/\0<deep:=fun j hj=>by
    obtain⟨z1,z2⟩:=ho j hj
    have kg:r.kind≠bD:=fun e=>by
     have:=f3 (by omega)
     unfold qG at this
     rw[e]at this
     simp at this
    exact⟨by rw[l3,l2,g2 kg];exact z1,z2⟩
   obtain⟨a4,m4,l4,q4⟩:=ih (m-k) (by omega) (by omega) a3 HZ h3
   refine⟨a4,m1.trans (m2.trans (m3.trans m4)),fun hd=>?_,fun bf mf af=>?_⟩
   ·have kg:r.kind≠bD:=fun e=>by
     have:=f3 (by omega)
     unfold qG at this
     rw[e]at this
     simp at this
    rw[l4 hd,l3,l2,g2 kg]
   ·obtain⟨u1,u2,u3⟩:=q2 bf (m3.trans (m4.trans mf)) af
    obtain⟨v1,v2,v3⟩:=q4 bf mf af
    refine⟨fun iF=>?_,fun j d iF hd=>?_,fun j Qx BW=>?_⟩
    ·subst iF
     refine .cons ⟨f1,by rw[CN (by omega)];omega⟩ (Kb a h1 (m1.trans (m2.trans (m3.trans (m4.trans mf)))) af) (fun zn=>?_) ?_
     ·have kg:r.kind≠bD:=fun e=>by
       rw[e]at zn
       exact zn.elim (by decide) (by decide)
      rw[hk,zY,vt lQ]
      exact u1 (zW kg)
     ·rw[hk,zY,Ao]
      exact v1 rfl
    ·have zn:=f4 (by rw[iF];rfl)
     have kg:r.kind≠bD:=fun e=>by
      rw[e]at zn
      exact zn.elim (by decide) (by decide)
     have w:=v2 j d iF hd
     rcases zn with ku |kr
     ·have hb:kX r.kind=false:=by rw[ku];decide
      have hz:r.rows=0:=f00.elim (fun h=>by rw[hb]at h;cases h) id
      have Lp:k=0:=by omega
      subst Lp
      obtain⟨z1,_,z3⟩:=Dq a (fun k e=>(ho k e).1) (M8 ku h1) (m1.trans (m2.trans (m3.trans (m4.trans mf)))) af
      have z1:v_ bf j r:=by rw[iF]at z1;exact z1
      exact .Tm ku hz z1 (z3 j iF d hd) w
     ·refine .Tz kr ⟨f1,by rw[CN (by omega)];omega⟩ ?_ ?_
      ·rw[hk,zY,vt lQ]
       exact u2 j d (by rw[zW kg];exact iF) hd
      ·rw[hk,zY,Ao]
       exact w
    ·by_cases BV:lh.ds.length<=j
     ·exact v3 j BV BW
     ·by_cases kg:r.kind=bD
      ·have e1:=g3 kg
       have WS:lS.ds.length=bk.ds.length+1:=by rw[e1];simp
       have hj4:j=bk.ds.length:=by omega
       subst hj4
       intro d hd
       have D1:lS.ds[bk.ds.length]?=some ⟨r.name,r.args.map (·.name),i+1,i+1+r.rows,1,0,false⟩:=by rw[e1];simp
       obtain⟨d',g4,g5⟩:=(m2.trans (m3.trans (m4.trans mf))).VC D1
       rw[hd]at g4;cases g4
       refine⟨i+1,k,?_,?_,by omega,u2 _ d (zX kg) hd⟩
       ·have:=congrArg (·.2.2.1) g5
        simp only[nX]at this
        omega
       ·have:=congrArg (·.2.2.2) g5
        simp only[nX]at this
        omega
      ·have:=g2 kg
       omega
  by_cases kg:r.kind=bD
  ·rw[zX kg]at h
   have hs:pQ (mX L (i+1) k):=(qp _ rfl (fun r' HT=>hL r' (List.mem_of_mem_drop (List.mem_of_mem_take HT))) a1.i h2).2.2
   have hb:=rm (ds:=fc.ds) (fun d hd=>(a2.i.ok.ds d hd).2.2.2) hs 0 (by omega)
   obtain⟨a3,m3⟩:=a2.modify (k:=bk.ds.length) (f:=fun d=>{ d with whole:=true,ops:=countP fc.ds (mX L (i+1) k) 0 }) (fun _=>rfl) (fun d hd=>by have:=a2.i.ok.ds d hd;simp only;omega)
   exact key _ a3 m3 (by simp) h
  ·rw[zW kg]at h
   exact key _ a2 kF.refl rfl h
end
section
open Go.Ab
structure hN where
 is:Bool
 cQ:Int
 value:Int
abbrev OL:=List (eY×Int)
def kx(k:Int)(n:ByteArray)(qs:List Int)(b:Int)(w:hN):eY:=⟨k,n,qs,b,w.is,w.cQ,w.value⟩
def j8(l:OL)(o:eY)(pl:Int):Except Int OL:=if l.length=4096 then .error pl else .ok (l++[(o,pl)])
def gv(f:OL->Except Int OL):Nat->OL->Except Int OL
 |0,l=>.ok l
 |n+1,l=>match f l with |.error e=>.error e |.ok l'=>if l'.length=l.length then .ok l' else gv f n l'
def nY(env:List (ByteArray×Int))(n:ByteArray):Int:=match env.find? (fun x=>decide (x.1=n)) with |some x=>x.2 |none=>0
def yY(l:List bS)(n:ByteArray):Option Nat:=l.findIdx? fun d=>decide (d.name=n)
def te(L:List Row)(d:bS):List Row:=mX L d.from_.toNat (d.Hv-d.from_).toNat
def ll(f:OL->Except Int OL):Except Int OL->Except Int OL
 |.error e=>.error e
 |.ok l=>f l
def aW (bk : Bk) (L : List Row) (k : Nat) (env : List (ByteArray × Int)) (w : hN) (pl : Int) (rows : List Row) (l : OL) : Except Int OL :=
  match rows with
  | [] => .ok l
  | r :: rest =>
    ll (fun l' => aW bk L k env w pl (rest.drop r.rows.toNat) l')
      (if r.kind = aT then gv (fun l' => aW bk L k env w pl (rest.take r.rows.toNat) l') r.num.toNat l
       else match yY bk.ds r.name with
        | none => j8 l (kx 1 r.name (r.args.map fun a => nY env a.name) 0 w) pl
        | some i => match bk.ds[i]? with
          | none => .ok l
          | some d => if d.ops = 0 then .ok l else if i < k then aW bk L i (d.params.zip (r.args.map fun a => nY env a.name)) w pl (te L d) l else .ok l)
termination_by (k, rows.length)
decreasing_by
  all_goals first
    | exact Prod.Lex.right _ (by simp only [List.length_take, List.length_drop, List.length_cons]; omega)
    | exact Prod.Lex.left _ _ (by assumption)
def jq(bk:Bk)(L:List Row)(k:Nat)(n:ByteArray)(qs:List Int)(w:hN)(pl:Int)(l:OL):Except Int OL:=
 match yY bk.ds n with
 |none=>j8 l (kx 1 n qs 0 w) pl
 |some i=>match bk.ds[i]? with
  |none=>.ok l
  |some d=>if d.ops=0 then .ok l else if i<k then aW bk L i (d.params.zip qs) w pl (te L d) l else .ok l
theorem yn{bk:Bk}{L:List Row}{k:Nat}{env:List (ByteArray×Int)}{w:hN}{pl:Int}{l:OL}:aW bk L k env w pl [] l=.ok l:=by rw[aW]
theorem vW{bk:Bk}{L:List Row}{k:Nat}{env:List (ByteArray×Int)}{w:hN}{pl:Int}{r:Row}{rest:List Row}{l:OL}:aW bk L k env w pl (r::rest) l =
  ll (aW bk L k env w pl (rest.drop r.rows.toNat)) (if r.kind=aT then gv (aW bk L k env w pl (rest.take r.rows.toNat)) r.num.toNat l else jq bk L k r.name (r.args.map fun a=>nY env a.name) w pl l):=by
 conv=>lhs;rw[aW]
 all_goals rfl
def fR(l:List gK)(a:Arg):Int:=(match eF l a.name with |some g=>g.from_ |none=>0)+a.index
def gR(g:gK):Int:=IntKind.u64.wrap (IntKind.u64.wrap (IntKind.u64.wrap (1*2^(min g.size.toNat 64))-1)*2^(min g.from_.toNat 64))
def valOf(g:gK)(n:Int):Int:=IntKind.u64.wrap (IntKind.u64.wrap n*2^(min g.from_.toNat 64))
def kE(a b:Int):Int:=IntKind.u64.wrap (BitVec.ofInt IntKind.u64.bits a &&& BitVec.ofInt IntKind.u64.bits b).toNat
def wx(a b:Int):Int:=IntKind.u64.wrap (BitVec.ofInt IntKind.u64.bits a |||BitVec.ofInt IntKind.u64.bits b).toNat
def oe(w:hN)(g:gK)(n:Int):Option hN:=if kE w.value (gR g)≠kE (valOf g n) w.cQ then none else some ⟨true,wx w.cQ (gR g),wx w.value (valOf g n)⟩
def iA (bk : Bk) (L : List Row) (w : hN) (rows : List Row) (l : OL) : Except Int OL :=
  match rows with
  | [] => .ok l
  | r :: rest =>
    ll (fun l' => iA bk L w (rest.drop r.rows.toNat) l')
      (if r.kind = aT then gv (fun l' => iA bk L w (rest.take r.rows.toNat) l') r.num.toNat l
       else if r.kind = eZ then (match eF bk.bs r.name with
        | none => .ok l
        | some g => match oe w g r.num with
          | none => .ok l
          | some w' => iA bk L w' (rest.take r.rows.toNat) l)
       else if r.kind = cn then jq bk L bk.ds.length r.name (r.args.map (fR bk.qs)) w r.place l
       else if r.kind = bT then (match r.args with
        | [a, b] => j8 l (kx 2 ByteArray.empty [fR bk.qs a] (fR bk.bs b) w) r.place
        | _ => .ok l)
       else if r.kind = cV then j8 l (kx 3 ByteArray.empty (r.args.map (fR bk.qs)) 0 w) r.place
       else .ok l)
termination_by rows.length
decreasing_by all_goals (simp only [List.length_take, List.length_drop, List.length_cons]; omega)
def vD (bk : Bk) (L : List Row) (w : hN) (r : Row) (body : List Row) (l : OL) : Except Int OL :=
  if r.kind = aT then gv (iA bk L w body) r.num.toNat l
  else if r.kind = eZ then (match eF bk.bs r.name with
   | none => .ok l
   | some g => match oe w g r.num with
     | none => .ok l
     | some w' => iA bk L w' body l)
  else if r.kind = cn then jq bk L bk.ds.length r.name (r.args.map (fR bk.qs)) w r.place l
  else if r.kind = bT then (match r.args with
   | [a, b] => j8 l (kx 2 ByteArray.empty [fR bk.qs a] (fR bk.bs b) w) r.place
   | _ => .ok l)
  else if r.kind = cV then j8 l (kx 3 ByteArray.empty (r.args.map (fR bk.qs)) 0 w) r.place
  else .ok l
theorem vg{bk:Bk}{L:List Row}{w:hN}{l:OL}:iA bk L w [] l=.ok l:=by rw[iA]
theorem vT{bk:Bk}{L:List Row}{w:hN}{r:Row}{rest:List Row}{l:OL}:iA bk L w (r::rest) l=ll (iA bk L w (rest.drop r.rows.toNat)) (vD bk L w r (rest.take r.rows.toNat) l):=by
 conv=>lhs;rw[iA]
 all_goals rfl
structure JH where
 q:Int
 b:Int
 ops:List eY
 at_:Int
 err:Int
def cY(L:List Row):JH:=
 match eM 0 none 0 L ⟨[],[],[]⟩ with
 |.error (pl,e)=>⟨0,0,[],pl,e⟩
 |.ok bk=>match iA bk L ⟨false,0,0⟩ L [] with
  |.error pl=>⟨0,0,[],pl,115⟩
  |.ok l=>
   if (il (aK bk.qs) (aK bk.bs) (l.map (·.1))).2≠0 then⟨0,0,[],(match l[(il (aK bk.qs) (aK bk.bs) (l.map (·.1))).1.toNat]? with |some x=>x.2 |none=>0),(il (aK bk.qs) (aK bk.bs) (l.map (·.1))).2⟩
   else⟨aK bk.qs,aK bk.bs,l.map (·.1),0,0⟩
theorem Jt{l:List bS}{n:ByteArray}(h:eB l n=none):yY l n=none:=by
 unfold yY
 rw[List.findIdx?_eq_none_iff]
 intro d hd
 have:=sj h d hd
 simpa using this
theorem OC{bk:Bk}(a:li bk){k:Nat}{d:bS}(h:bk.ds[k]?=some d):yY bk.ds d.name=some k:=by
 unfold yY
 rw[List.findIdx?_eq_some_iff_getElem]
 obtain⟨h1,h2⟩:=zM.1 h
 refine⟨h1,by rw[h2];simp,fun j hj=>?_⟩
 have hp:=List.pairwise_iff_getElem.1 a.nd j k (by simpa using Nat.lt_trans hj h1) (by simpa using h1) hj
 simp only[List.getElem_map]at hp
 rw[h2]at hp
 simpa using hp
end
section
open Go.Ab
attribute [-simp] aV aE
def TQ(t:TypeId):Bool:=t==76||t==36||t==3
def Sep(x y:AV):Prop:=∀id off n uv n',x=.sl id off n->y≠.sl id uv n'
structure PX (n0:Nat) (h:AH) (p:Nat) (xr:AV) (bk:Bk) (ids:List Nat) (qm bm gm:Nat) (l:OL) (pl:Int) (xp xo:AV):Prop where
 n:n0<=p/\dC (n0<=·) xp/\dC (n0<=·) xo
 p:h.obj p=some (C4 xr qm bm gm xp (aK bk.qs) (aK bk.bs) xo pl)
 m:PM h bk ids qm bm gm
 x:cl cX 1 3 h xp (l.map (·.2))
 o:∃yl:List (eY×AV),cl ch 7 36 h xo yl/\yl.map (·.1)=l.map (·.1)/\∀y∈yl,cK cX 1 3 h y.2 y.1.aN/\Sep xp y.2
 len:l.length<=4096
theorem PM.wS{n0:Nat}{h h':AH}{bk:Bk}{ids:List Nat}{qm bm gm:Nat}(a:PM h bk ids qm bm gm)(hf:Fr h h' (TW TQ n0 h)):PM h' bk ids qm bm gm:=
 ⟨TW.obj hf a.q rfl,TW.obj hf a.b rfl,TW.obj hf a.g rfl,a.len,fun k d id h1 h2=>(a.d k d id h1 h2).fr hf fun i o ho ht=>TW.no ho fun _=>by rcases ht with e |e<;>rw[e]<;>rfl,a.nd,a.qb⟩
theorem RT.wS{h h':AH}{xr:AV}{rs:List (Row×AV)}{n0:Nat}(a:RT h xr rs)(f:Fr h h' (TW TQ n0 h)):RT h' xr rs:=⟨a.r.pM f rfl,fun y hy=>⟨(a.a y hy).1.pM f rfl,(a.a y hy).2⟩,a.n⟩
theorem PX.ba{n0:Nat}{h h':AH}{p:Nat}{xr:AV}{bk:Bk}{ids:List Nat}{qm bm gm:Nat}{l:OL}{pl:Int}{xp xo:AV}(a:PX n0 h p xr bk ids qm bm gm l pl xp xo)(f:Fr h h' fun _=>False):PX n0 h' p xr bk ids qm bm gm l pl xp xo:=by
 obtain⟨yl,o1,o2,o3⟩:=a.o
 exact⟨a.n,f.bU a.p,a.m.ba f,a.x.aU f fun _ _ h=>h,⟨yl,o1.aU f fun _ _ h=>h,o2,fun y hy=>⟨(o3 y hy).1.ba f,(o3 y hy).2⟩⟩,a.len⟩
theorem PX.sH{n0:Nat}{h:AH}{p:Nat}{xr:AV}{bk:Bk}{ids:List Nat}{qm bm gm:Nat}{l:OL}{pl:Int}{xp xo:AV}(a:PX n0 h p xr bk ids qm bm gm l pl xp xo):Dj h p pl:=⟨_,a.p,rfl⟩
theorem dC.lift{α:Type}{f:α->List AV}{sz:Nat}{ty:TypeId}{h:AH}{x:AV}{l:List α}(a:cl f sz ty h x l){W:Nat->Prop}(hw:∀id,h.obj id≠none->W id):dC W x:=by
 intro id off n e
 rcases a with⟨rfl,_⟩ |⟨i,rfl,ho⟩
 ·cases e
 ·cases e
  exact hw _ (by rw[ho];simp)
theorem iS{α:Type}{f:α->List AV}{sz:Nat}{ty:TypeId}{h:AH}{x:AV}{l:List α}(a:cl f sz ty h x l){i:Nat}{o:AO}(ho:h.obj i=some o)(ht:o.ty≠ty):¬ ∃off n,x=.sl i off n:=by
 rintro⟨off,n,e⟩
 rcases a with⟨rfl,_⟩ |⟨j,rfl,hj⟩
 ·cases e
 ·cases e
  rw[ho]at hj;cases hj
  exact ht rfl
theorem CO{α:Type}{f:α->List AV}{sz:Nat}{ty:TypeId}{h:AH}{x z:AV}{l:List α}(a:dC (h.next<=·) x)(b:cK f sz ty h z l):Sep x z:=by
 intro id off n uv n' e1 e2
 have h1:=a _ _ _ e1
 subst e2
 rcases b with⟨e,_⟩ |⟨_,_,e,_⟩ |⟨j,rest,ro,mC,e,_,hj⟩
 ·cases e
 ·cases e
 ·cases e
  have:=h.lt _ _ hj
  omega
theorem Tu{α:Type}{f:α->List AV}{sz:Nat}{ty:TypeId}{h h':AH}{x z:AV}{l:List α}(b:cK f sz ty h z l)(hf:Fr h h' fun i=>∃off n,x=.sl i off n)(hs:Sep x z):cK f sz ty h' z l:=by
 rcases b with e |e |⟨j,rest,ro,mC,rfl,ht,hj⟩
 ·exact .inl e
 ·exact .inr (.inl e)
 ·exact .inr (.inr ⟨j,rest,ro,mC,rfl,ht,hf.obj hj fun⟨off,n,e⟩=>hs _ _ _ _ _ e rfl⟩)
def PE(n0:Nat)(xr:AV)(bk:Bk)(ids:List Nat)(qm bm gm:Nat)(h:AH)(p:Nat)(e:Int):Prop:=∃l xp xo,PX n0 h p xr bk ids qm bm gm l e xp xo
theorem PX.Zt{n0:Nat}{h:AH}{p:Nat}{xr:AV}{bk:Bk}{ids:List Nat}{qm bm gm:Nat}{l:OL}{pl:Int}{xp xo:AV}(px:PX n0 h p xr bk ids qm bm gm l pl xp xo){e:Int}:PX n0 (h.put p 8 [I e]) p xr bk ids qm bm gm l e xp xo/\Fr h (h.put p 8 [I e]) (TW TQ n0 h):=by
 have f:Fr h (h.put p 8 [I e]) (·=p):=Fr.refl.put (.inl rfl)
 have o:=dz (off:=8) (cs:=[I e]) px.p
 generalize h.put p 8 [I e]=h1 at *
 have g:Fr h h1 (TW TQ n0 h):=TW.jm f px.n.1 px.p rfl rfl
 obtain⟨yl,o1,o2,o3⟩:=px.o
 refine⟨⟨px.n,o,px.m.wS g,px.x.aU f fun id e he=>?_,⟨yl,o1.aU f fun id e he=>?_,o2,fun y hy=>⟨(o3 y hy).1.fr f fun id o ho ht e=>?_,(o3 y hy).2⟩⟩,px.len⟩,g⟩
 ·subst he;exact iS px.x px.p (show(76:Nat)≠3 by decide) ⟨_,_,e⟩
 ·subst he;exact iS o1 px.p (show(76:Nat)≠36 by decide) ⟨_,_,e⟩
 ·subst e
  have hp:=px.p
  rw[ho]at hp;cases hp
  exact absurd (ht rfl) (show(76:Nat)≠3 by decide)
section
variable {h:AH} {M:Nat->Prop} {R:AE->AH->Prop} {n0 p:Nat} {xr xp xo xq:AV} {bk:Bk} {ids:List Nat} {qm bm gm:Nat} {l:OL} {pl place:Int} {k b:Int} {n:ByteArray} {qs:List Int} {w:hN}
abbrev rG(w:hN):List AV:=[B w.is,U w.cQ,U w.value]
theorem Fe(px:PX n0 h p xr bk ids qm bm gm l pl xp xo)(hq:cK cX 1 3 h xq qs)(sep:Sep xp xq)(hM:∀id,TW TQ n0 h id->M id)
  (he:∀h',j8 l (kx k n qs b w) place=.error place->PE n0 xr bk ids qm bm gm h' p place->Fr h h' (TW TQ n0 h)->R (.ret (B false)) h')
  (hk:∀l' fP fp fq h',j8 l (kx k n qs b w) place=.ok l'->PX n0 h' p xr bk ids qm bm gm l' fP fp fq->Fr h h' (TW TQ n0 h)->R (.ret (B true)) h') :
  aA Pg 67 [.ptr p 0,.agg [I k,Sb n,xq,I b,B false,U 0,U 0],.agg (rG w),I place] h M R:=by
 apply wW.aM
 unfold wW.n9
 refine dV (by show(true&&(true&&(cR xq&&true)))=true;rw[hq.one.1];rfl) fun vo h1 f1 mo oo=>?_
 refine dV rfl fun vw h2 f2 UB ow=>?_
 have bX:=f1.cj f2
 have XF:=f2.bU oo
 have ib:=px.ba bX
 have HW:=hq.ba bX
 have dx:vo≠vw:=fun e=>by
  have:=h1.lt _ _ oo
  omega
 have Yf:∀{h3:AH},Fr h h3 (TW TQ n0 h)->∀id,TW TQ n0 h3 id->(M id\/h.next<=id):=fun f id hid=>(TW.back f hid).elim (fun h=>.inl (hM id h)) .inr
 have mp:∀{h3:AH},(M p\/h3.next<=p):=.inl (hM p ⟨px.n.1,_,px.p,rfl,rfl⟩)
 unfold j8 at he hk
 simp only[wW.n8,aC,aj,au,ib.p,ap,zG,Nat.reduceAdd,zA,zB,aa]
 obtain⟨yl,o1,o2,o3⟩:=ib.o
 have zh:yl.length=l.length:=by have:=congrArg List.length o2;simpa using this
 simp only[o1.dr.len.1,o1.dr.len.2,zH,eG,zh]
 by_cases k1:l.length=4096
 ·rw[zX k1]at he
  have eI:((l.length:Int)==4096)=true:=by rw[k1];rfl
  simp only[eI,wW.n7,al,zD,zF,zC,zI,wW.n6,aC,aj,aE,ib.p,dt,bz]
  refine⟨⟨mp (h3:=h),rfl,rfl,by simp⟩,?_⟩
  obtain⟨xu,f3⟩:=ib.Zt (e:=place)
  generalize h2.put p 8 [I place]=h3 at *
  simpa[wW.n5] using he h3 rfl ⟨l,xp,xo,xu⟩ (TW.trans (TW.aU bX) f3)
 ·rw[zW k1]at hk
  have eI:((l.length:Int)==4096)=false:=by
   have:¬(l.length:Int)=4096:=by omega
   simpa using this
  simp only[eI,wW.n7,al,zE,zD,zC,zH,wW.n4]
  refine⟨fun _=>vw,fun _ _=>by rw[ow];simp,?_⟩
  simp only[aj,au,ow,ap,zG,zA,zB,aa,zH,aE,XF,ns,bz]
  have wo:∀{i:Nat},i=vo->(M i\/h.next<=i):=fun e=>by subst e;exact .inr mo
  refine⟨⟨⟨wo rfl,fun _ _=>dx⟩,rfl,rfl,by simp⟩,?_⟩
  have f3:Fr h (h2.put vo 4 [B w.is]) fun _=>False:=bX.put (.inr mo)
  have XE:=dz (off:=4) (cs:=[B w.is]) XF
  generalize h2.put vo 4 [B w.is]=h3 at *
  simp only[XE,dt,bz]
  refine⟨⟨⟨wo rfl,fun _ _=>dx⟩,rfl,rfl,by simp⟩,?_⟩
  have f4:Fr h (h3.put vo 5 [U w.cQ]) fun _=>False:=f3.put (.inr mo)
  have XD:=dz (off:=5) (cs:=[U w.cQ]) XE
  generalize h3.put vo 5 [U w.cQ]=h4 at *
  simp only[XD,dt,bz]
  refine⟨⟨wo rfl,rfl,rfl,by simp⟩,?_⟩
  have f5:Fr h (h4.put vo 6 [U w.value]) fun _=>False:=f4.put (.inr mo)
  have oo5:=dz (off:=6) (cs:=[U w.value]) XD
  generalize h4.put vo 6 [U w.value]=h5 at *
  have tC:=px.ba f5
  have hq5:=hq.ba f5
  obtain⟨yl,o1,o2,o3⟩:=tC.o
  have abE:yl.length=l.length:=by have:=congrArg List.length o2;simpa using this
  have abC:=px.len
  simp only[wW.n3,aC,aj,au,tC.p,ap,zG,Nat.reduceAdd,zA,zB,aa]
  refine dW oo5 rfl fun _=>?_
  refine qA (f:=ch) (t:=(kx k n qs b w,xq)) gX (by omega) rfl (by omega) rfl (kC hq.one.1) o1 ?_ (by omega) fun y h6 hy HS f6=>?_
  ·intro id off n e
   rcases o1 with⟨e1,_⟩ |⟨j,e1,ho⟩
   ·rw[e1]at e;cases e
   ·rw[e1]at e;cases e
    exact(Yf (TW.aU f5) _ ⟨px.n.2.2 _ _ _ e1,_,ho,rfl,rfl⟩)
  ·have oy:[y].all cR=true:=by show(cR y&&true)=true;rw[hy.dr.one.1];rfl
   have np:¬ ∃off n,xo=.sl p off n:=iS o1 tC.p (show(76:Nat)≠36 by decide)
   have p6:=f6.obj tC.p np
   have g6:Fr h h6 (TW TQ n0 h):=by
    refine TW.trans (TW.aU f5) (f6.mono fun i ⟨off,n,e⟩=>?_)
    rcases o1 with⟨e1,_⟩ |⟨j,e1,ho⟩
    ·rw[e1]at e;cases e
    ·rw[e1]at e;cases e
     exact⟨px.n.2.2 _ _ _ e1,_,ho,rfl,rfl⟩
   have x6:cl cX 1 3 h6 xp (l.map (·.2)):=tC.x.aU f6 fun id e=>by
    rcases tC.x with⟨e1,_⟩ |⟨j,e1,ho⟩
    ·rw[e1]at e;cases e
    ·rw[e1]at e;cases e
     exact iS o1 ho (show(3:Nat)≠36 by decide)
   have q6:∀{z:AV}{zl:List Int},cK cX 1 3 h5 z zl->cK cX 1 3 h6 z zl:=fun hz=>hz.fr f6 fun id o ho ht ⟨off,n,e⟩=>by
    rcases o1 with⟨e1,_⟩ |⟨j,e1,hj⟩
    ·rw[e1]at e;cases e
    ·rw[e1]at e;cases e
     rw[hj]at ho;cases ho
     exact absurd (ht rfl) (show(36:Nat)≠3 by decide)
   simp only[aC,aj,aE,p6,hy.dr.one.2,bz,zG,Nat.reduceAdd]
   refine⟨⟨mp (h3:=h),oy,rfl,by simp⟩,?_⟩
   have f7:Fr h6 (h6.put p 7 [y]) (·=p):=Fr.refl.put (.inl rfl)
   have p7:=dz (off:=7) (cs:=[y]) p6
   generalize h6.put p 7 [y]=h7 at *
   have g7:=TW.trans g6 (TW.jm (T:=TQ) f7 px.n.1 p6 rfl rfl)
   have x7:cl cX 1 3 h7 xp (l.map (·.2)):=x6.aU f7 fun id e he=>by
    subst he
    exact iS x6 p6 (show(76:Nat)≠3 by decide) ⟨_,_,e⟩
   have y7:cl ch 7 36 h7 y (yl++[(kx k n qs b w,xq)]):=hy.aU f7 fun id e he=>by
    subst he
    exact iS hy p6 (show(76:Nat)≠36 by decide) ⟨_,_,e⟩
   have q7:∀{z:AV}{zl:List Int},cK cX 1 3 h6 z zl->cK cX 1 3 h7 z zl:=fun hz=>hz.fr f7 fun id o ho ht e=>by
    subst e
    rw[p6]at ho;cases ho
    exact absurd (ht rfl) (show(76:Nat)≠3 by decide)
   simp only[wW.n2,aC,aj,au,p7,bt,List.set_cons_zero,List.set_cons_succ,ap,zG,Nat.reduceAdd,zA,zB,aa]
   refine qA (f:=cX) (t:=place) gJ (by omega) rfl (by omega) rfl rfl x7 ?_ (by have:=px.len;simp only[zZ];omega) fun z h8 hz mJ f8=>?_
   ·intro id off n e
    rcases x7 with⟨e1,_⟩ |⟨j,e1,ho⟩
    ·rw[e1]at e;cases e
    ·rw[e1]at e;cases e
     exact(Yf g7 _ ⟨px.n.2.1 _ _ _ e1,_,ho,rfl,rfl⟩)
   ·have oz:[z].all cR=true:=by show(cR z&&true)=true;rw[hz.dr.one.1];rfl
    have np8:¬ ∃off n,xp=.sl p off n:=iS x7 p7 (show(76:Nat)≠3 by decide)
    have p8:=f8.obj p7 np8
    have g8:Fr h h8 (TW TQ n0 h):=by
     refine TW.trans g7 (f8.mono fun i ⟨off,n,e⟩=>?_)
     rcases x7 with⟨e1,_⟩ |⟨j,e1,ho⟩
     ·rw[e1]at e;cases e
     ·rw[e1]at e;cases e
      exact⟨px.n.2.1 _ _ _ e1,_,ho,rfl,rfl⟩
    have y8:cl ch 7 36 h8 y (yl++[(kx k n qs b w,xq)]):=y7.aU f8 fun id e=>by
     rcases y7 with⟨e1,_⟩ |⟨j,e1,ho⟩
     ·rw[e1]at e;cases e
     ·rw[e1]at e;cases e
      exact iS x7 ho (show(36:Nat)≠3 by decide)
    simp only[aC,aj,aE,p8,hz.dr.one.2,bz,zG,Nat.reduceAdd]
    refine⟨⟨mp (h3:=h),oz,rfl,by simp⟩,?_⟩
    have f9:Fr h8 (h8.put p 4 [z]) (·=p):=Fr.refl.put (.inl rfl)
    have p9:=dz (off:=4) (cs:=[z]) p8
    generalize h8.put p 4 [z]=h9 at *
    have g9:=TW.trans g8 (TW.jm (T:=TQ) f9 px.n.1 p8 rfl rfl)
    have z9:cl cX 1 3 h9 z (l.map (·.2)++[place]):=hz.aU f9 fun id e he=>by
     subst he
     exact iS hz p8 (show(76:Nat)≠3 by decide) ⟨_,_,e⟩
    have y9:cl ch 7 36 h9 y (yl++[(kx k n qs b w,xq)]):=y8.aU f9 fun id e he=>by
     subst he
     exact iS y8 p8 (show(76:Nat)≠36 by decide) ⟨_,_,e⟩
    have q9:∀{z:AV}{zl:List Int},cK cX 1 3 h8 z zl->cK cX 1 3 h9 z zl:=fun hz=>hz.fr f9 fun id o ho ht e=>by
     subst e
     rw[p8]at ho;cases ho
     exact absurd (ht rfl) (show(76:Nat)≠3 by decide)
    have Fc:∀{v:AV}{zl:List Int},cK cX 1 3 h5 v zl->Sep xp v->cK cX 1 3 h9 v zl/\Sep z v:=fun{v zl} hv hs=>by
     have LI:cK cX 1 3 h7 v zl:=q7 (q6 hv)
     exact⟨q9 (Tu LI f8 hs),CO mJ LI⟩
    have lt:∀{a b:AH}{S:Nat->Prop},Fr a b S->∀{x:AV},dC (b.next<=·) x->dC (a.next<=·) x:=fun f x hx id off n e=>zR f.next (hx _ _ _ e)
    simp only[wW.n1]
    have fin:=hk (l++[(kx k n qs b w,place)]) pl z y h9 rfl ⟨⟨px.n.1,fun id off n e=>?_,fun id off n e=>?_⟩,?_,px.m.wS g9,by simpa using z9,⟨_,y9,by simp[o2],fun v hv=>?_⟩,by simp only[List.length_append,List.length_singleton];have:=px.len;omega⟩ g9
    ·simpa using fin
    ·have h1:=lt g7 mJ _ _ _ e
     have h2:=h.lt _ _ px.p
     have h3:=px.n.1
     omega
    ·have h1:=lt (TW.aU (T:=TQ) (n0:=n0) f5) HS _ _ _ e
     have h2:=h.lt _ _ px.p
     have h3:=px.n.1
     omega
    ·simpa[bt] using p9
    ·rcases List.mem_append.1 hv with hv |hv
     ·exact Fc (o3 v hv).1 (o3 v hv).2
     ·have:=List.mem_singleton.1 hv
      subst this
      exact Fc hq5 sep
end
end
section
open Go.Ab
attribute [-simp] aV aE
theorem Q6{l:List gK}{a:Arg}(h:gU l a=0):∃g,eF l a.name=some g/\0<=a.index/\a.index<g.size:=by
 unfold gU at h
 split at h
 ·cases h
 ·rename_i g hg
  split at h
  ·cases h
  ·exact⟨g,hg,by omega,by omega⟩
section
variable {h:AH} {M:Nat->Prop} {R:AE->AH->Prop} {p:Nat} {x1:AV} {bk:Bk} {ids:List Nat} {qm bm gm:Nat} {cs:List AV} {args:List Arg}
theorem I1(hp:h.obj p=some (aP cs 9 76))(c1:cs[1]?=some (.mp qm))(pm:PM h bk ids qm bm gm)(ok:yE bk)(ha:cK Arg.enc 2 92 h x1 args)(hl:args.length<=100000000)(o_:∀a∈args,gU bk.qs a=0)
  (hR:∀y h',cl cX 1 3 h' y (args.map (fR bk.qs))->dC (h.next<=·) y->Fr h h' (fun _=>False)->R (.ret y) h'):aA Pg 66 [.ptr p 0,x1] h M R:=by
 apply uj.aM
 unfold uj.aS uj.n9 uj.n8
 refine⟨ha.len.1,?_⟩
 rw[ha.len.2]
 unfold uj.n7
 refine cy (ι:=Nat×AV) (fun i v h'=>v=[.ptr p 0,i.2,x1,I args.length,I i.1]/\i.1<=args.length/\Fr h h' (fun _=>False)/\cl cX 1 3 h' i.2 ((args.take i.1).map (fR bk.qs))/\dC (h.next<=·) i.2) (fun i=>args.length-i.1) (0,aQ) ⟨rfl,by omega,Fr.refl,by simpa using cl.nil,fun _ _ _ e=>by cases e⟩ ?_
 rintro K ⟨i,x5⟩ v h1 ⟨rfl,hi,f1,hx,hs⟩ step
 simp only at hi hx hs step
 simp only[uj.cG,zN,zO,uj.n6,bc]
 by_cases aL:i<args.length
 ·have fH:(i:Int)<args.length:=by omega
  have g1:args[i]?=some args[i]:=zJ aL
  have gA:=List.getElem_mem aL
  have lA:args.take (i+1)=args.take i++[args[i]]:=by rw[List.take_add_one,g1];rfl
  generalize args[i]=a at *
  obtain⟨g,hg,i0,i1⟩:=Q6 (o_ a gA)
  have hgs:=ok.sq g (List.mem_of_find?_eq_some hg)
  have ht:=ok.tq
  simp only[zL fH,uj.n5,al,zD,zF,zC,zI,uj.n4]
  refine gD (ha.ba f1) Arg.bu (Arg.hZ a) g1 rfl rfl (fun id hid=>.inr (zR f1.next hid)) fun vn h2 f2 nO ov=>?_
  have bX:=f1.cj f2
  simp only[uj.n3,aC,aj,au,bX.bU hp,ov,ap,zG,c1,Arg.enc,zA,zB,aa]
  refine jo (enc:=Sb) kz z93 (pm.ba bX).q fun _=>?_
  rw[lY,hg]
  have w1:IntKind.i64.wrap (g.from_+a.index)=fR bk.qs a:=by
   unfold fR
   rw[hg]
   exact aR (by omega) (by omega)
  have w2:IntKind.i64.wrap ((i:Int)+1)=((i+1:Nat):Int):=by rw[aR (by omega) (by omega)];simp
  simp only[yB,im,zE,if_false,vR,m9,List.take,List.drop,zA,aj,au,ov,ap,zG,zB,aa,aZ,w1]
  refine⟨_,rfl,?_⟩
  simp only[aZ,w1]
  refine qA (f:=cX) (t:=fR bk.qs a) gJ (by omega) rfl (by omega) rfl rfl (hx.aU f2 fun _ _ h=>h) (fun id off n e=>.inr (hs id off n e)) (by rw[zZ,yA];omega) fun y h3 hy HS f3=>?_
  have eO:Fr h h3 fun _=>False:=bX.trans (f3.mono fun j ⟨off,n,e⟩=>.inr (hs j off n e))
  simp only[uj.n2,aZ,w2]
  refine step (i+1,y) _ h3 (by simp only;omega) ⟨rfl,by simp only;omega,eO,?_,fun id off n e=>zR bX.next (HS id off n e)⟩
  rw[lA,List.map_append]
  exact hy
 ·have eV:¬(i:Int)<args.length:=by omega
  have e:i=args.length:=by omega
  subst e
  rw[List.take_length]at hx
  simpa[eV,uj.n5,uj.n1] using hR x5 h1 hx hs f1
end
end
section
open Go.Ab
attribute [-simp] aV aE
abbrev Az(env:List (ByteArray×Int)):AO:=mw Sb 135 (env.map fun x=>(x.1,I x.2))
theorem Ok{n:ByteArray}{env:List (ByteArray×Int)}:(match fw n (env.map fun x=>(x.1,I x.2)) with |some v=>v |none=>I 0)=I (nY env n):=by
 rw[AL (f:=fun x:ByteArray×Int=>x.1) (g:=fun x=>I x.2)]
 unfold nY
 cases env.find? fun x=>decide (x.1=n)<;>rfl
structure SC (bk:Bk) (rs:List (Row×AV)):Prop where
 bf:ms bk
 dk:∀k,JM bk (rs.map (·.1)) k
 nm:∀y∈rs,y.1.num<=9223372036854775807
def JN(n0 p:Nat)(xr:AV)(bk:Bk)(ids:List Nat)(qm bm gm:Nat)(rs:List (Row×AV))(k n:Nat):Prop:=
 ∀(h:AH)(M:Nat->Prop)(R:AE->AH->Prop)(a:Nat)(env:List (ByteArray×Int))(mb:Nat)(w:hN)(pl place:Int)(xp xo:AV)(l:OL)(ps:List ByteArray),PX n0 h p xr bk ids qm bm gm l pl xp xo->RT h xr rs->a+n<=rs.length ->
  h.obj mb=some (Az env)->GB bk k ps (sg rs a n)->(∀id,TW TQ n0 h id->M id) ->
  (∀e h',aW bk (rs.map (·.1)) k env w place (sg rs a n) l=.error e->PE n0 xr bk ids qm bm gm h' p e->Fr h h' (TW TQ n0 h)->R (.ret (B false)) h') ->
  (∀l' fP fp fq h',aW bk (rs.map (·.1)) k env w place (sg rs a n) l=.ok l'->PX n0 h' p xr bk ids qm bm gm l' fP fp fq->Fr h h' (TW TQ n0 h)->R (.ret (B true)) h') ->
  aA Pg 89 [.ptr p 0,I a,I (a+n),.mp mb,.agg (rG w),I place] h M R
def Xd(bk:Bk)(k:Nat)(nm:ByteArray)(n:Nat):Prop:=eB bk.ds nm=none\/∃j d,j<k/\bk.ds[j]?=some d/\d.name=nm/\n=d.params.length
def CI(n0 p:Nat)(xr:AV)(bk:Bk)(ids:List Nat)(qm bm gm:Nat)(rs:List (Row×AV))(k:Nat):Prop:=
 ∀(h:AH)(M:Nat->Prop)(R:AE->AH->Prop)(nm:ByteArray)(qs:List Int)(xq:AV)(w:hN)(pl place:Int)(xp xo:AV)(l:OL),PX n0 h p xr bk ids qm bm gm l pl xp xo->RT h xr rs ->
  cK cX 1 3 h xq qs->Sep xp xq->Xd bk k nm qs.length->(∀id,TW TQ n0 h id->M id) ->
  (∀e h',jq bk (rs.map (·.1)) k nm qs w place l=.error e->PE n0 xr bk ids qm bm gm h' p e->Fr h h' (TW TQ n0 h)->R (.ret (B false)) h') ->
  (∀l' fP fp fq h',jq bk (rs.map (·.1)) k nm qs w place l=.ok l'->PX n0 h' p xr bk ids qm bm gm l' fP fp fq->Fr h h' (TW TQ n0 h)->R (.ret (B true)) h') ->
  aA Pg 65 [.ptr p 0,Sb nm,xq,.agg (rG w),I place] h M R
theorem PX.gH{n0:Nat}{h:AH}{p:Nat}{xr:AV}{bk:Bk}{ids:List Nat}{qm bm gm:Nat}{l:OL}{pl:Int}{xp xo:AV}(a:PX n0 h p xr bk ids qm bm gm l pl xp xo):aY xo=false/\∀K:AV->Prop,bL xo K=K (I l.length):=by
 obtain⟨yl,o1,o2,_⟩:=a.o
 have zh:yl.length=l.length:=by have:=congrArg List.length o2;simpa using this
 rw[<-zh]
 exact o1.dr.len
section
variable {W:Nat->Prop} {QR QN:VK} {QE:Nat->VK} {QP:AV->AH->Prop} {h:AH} {n0 p vw vr mb:Nat} {xr xp xo x2:AV} {bk:Bk} {ids:List Nat} {qm bm gm:Nat} {l:OL} {pl place:Int} {rs:List (Row×AV)} {w:hN} {y:Row×AV} {k j kk:Nat} {env:List (ByteArray×Int)} {ps:List ByteArray}
theorem Sv(hB:JN n0 p xr bk ids qm bm gm rs k kk)(px:PX n0 h p xr bk ids qm bm gm l pl xp xo)(rt:RT h xr rs)(hj:j+1+kk<=rs.length)(om:h.obj mb=some (Az env))(ow:h.obj vw=some (aP (rG w) 3 79))(bO:h.obj vr=some (aP (az y) 6 87))(xP:y.1.rows=kk)
  (hg:GB bk k ps (sg rs (j+1) kk)) (hW:∀id,TW TQ n0 h id\/h.next<=id->W id)
  (he:∀e h',gv (aW bk (rs.map (·.1)) k env w place (sg rs (j+1) kk)) y.1.num.toNat l=.error e->PE n0 xr bk ids qm bm gm h' p e->Fr h h' (TW TQ n0 h)->QR [B false] h')
  (hk:∀l' fP fp fq h',gv (aW bk (rs.map (·.1)) k env w place (sg rs (j+1) kk)) y.1.num.toNat l=.ok l'->PX n0 h' p xr bk ids qm bm gm l' fP fp fq->Fr h h' (TW TQ n0 h)->fN.n2 W QR QN QE QP (.ptr p 0) x2 (.mp mb) (I place) (.ptr vw 0) (I j) h') (sP:y.1.num<=9223372036854775807) :
  fN.cF W QR QN QE QP (.ptr p 0) x2 (.mp mb) (I place) (.ptr vw 0) (I j) (.ptr vr 0) h:=by
 unfold fN.cF fN.cS
 have hlen:=rt.n
 refine cy (ι:=Nat×OL×Int×AV×AV) (fun i v h'=>v=[.ptr p 0,x2,.mp mb,I place,.ptr vw 0,I j,.ptr vr 0,I (y.1.num.toNat-i.1:Nat)]/\i.1<=y.1.num.toNat/\PX n0 h' p xr bk ids qm bm gm i.2.1 i.2.2.1 i.2.2.2.1 i.2.2.2.2/\gv (aW bk (rs.map (·.1)) k env w place (sg rs (j+1) kk)) i.1 i.2.1=gv (aW bk (rs.map (·.1)) k env w place (sg rs (j+1) kk)) y.1.num.toNat l/\Fr h h' (TW TQ n0 h)) (fun i=>i.1) (y.1.num.toNat,l,pl,xp,xo) ⟨by simp,zU _,px,rfl,TW.aU Fr.refl⟩ ?_
 rintro K ⟨c,l1,Bs,jD,iG⟩ v h1 ⟨rfl,hc,mZ,bq,f1⟩ step
 simp only at hc mZ bq step
 have kI:h1.obj vr=some (aP (az y) 6 87):=TW.obj f1 bO rfl
 have HK:h1.obj vw=some (aP (rG w) 3 79):=TW.obj f1 ow rfl
 have om1:h1.obj mb=some (Az env):=TW.obj f1 om rfl
 simp only[fN.pL,zN,zO,fN.cL,aj,au,kI,ap,zG,az,zA,zB,aa,bc]
 cases c with
 |zero=>
  have e1:decide (((y.1.num.toNat-0:Nat):Int)<y.1.num)=false:=by simp;omega
  simp only[gv]at bq
  simp only[e1,fN.cw,al,zE,zD,zC,zH,zV,if_false,fN.bP,zN,zO]
  exact hk l1 Bs jD iG h1 bq.symm mZ f1
 |succ c=>
  have e1:decide (((y.1.num.toNat-(c+1):Nat):Int)<y.1.num)=true:=by simp;omega
  have w1:∀x:Int,0<=x/\x<=1000000000->IntKind.i64.wrap x=x:=fun x hx=>aR (by omega) (by omega)
  simp only[gv]at bq
  simp only[e1,fN.cw,al,zD,zF,zC,zI,fN.cT,aC,aj,au,mZ.p,ap,zG,Nat.reduceAdd,zA,zB,aa,mZ.gH.1,mZ.gH.2,zH,fN.cP,kI,az,xP,aZ,w1 ((j:Int)+1) (by omega),w1 ((j:Int)+1+kk) (by omega)]
  refine dW HK rfl fun _=>?_
  refine⟨TW TQ n0 h1,fun id hs _=>hW id (TW.back f1 hs),hB h1 _ _ (j+1) env mb w Bs place jD iG l1 ps mZ (rt.wS f1) hj om1 hg (fun _ h=>h) ?_ ?_⟩
  ·intro e h2 hb hp f2
   rw[hb]at bq
   simp only[dA,zT,fN.cp,al,zD,zF,zC,zI,fN.ck]
   exact he e h2 bq.symm hp (TW.trans f1 f2)
  ·intro l2 mc oP lm h2 hb ib f2
   rw[hb]at bq
   simp only at bq
   have bX:=TW.trans f1 f2
   simp only[dA,zS,fN.cp,al,zE,zD,zC,zH,fN.b5,aC,aj,au,ib.p,ap,zG,Nat.reduceAdd,zA,zB,aa,ib.gH.1,ib.gH.2,eG]
   by_cases k1:l2.length=l1.length
   ·rw[zX k1]at bq
    have eI:((l2.length:Int)==(l1.length:Int))=true:=by rw[k1];simp
    simp only[eI,fN.bR,al,zD,zF,zC,zI,zV,fN.bP,zN,zO]
    exact hk l2 mc oP lm h2 bq.symm ib bX
   ·rw[zW k1]at bq
    have eI:((l2.length:Int)==(l1.length:Int))=false:=by simp;omega
    have w3:IntKind.i64.wrap (((y.1.num.toNat-(c+1):Nat):Int)+1)=((y.1.num.toNat-c:Nat):Int):=by rw[aR (by omega) (by omega)];omega
    simp only[eI,fN.bR,al,zE,zD,zC,zH,fN.bV,aZ,w3]
    exact step (c,l2,mc,oP,lm) _ h2 (by simp only;omega) ⟨rfl,by simp only;omega,ib,bq,bX⟩
theorem Nl{n:ByteArray}:im false (I 0) (fw n (env.map fun x=>(x.1,I x.2)))=I (nY env n):=by
 rw[<-Ok]
 cases fw n (env.map fun x=>(x.1,I x.2))<;>rfl
theorem qj{α:Type}{f:α->List AV}{sz:Nat}{ty:TypeId}{h:AH}{x z:AV}{l:List α}(a:cl f sz ty h x l)(b:dC (h.next<=·) z):Sep x z:=by
 intro id off n uv n' e1 e2
 have h1:=b _ _ _ e2
 rcases a with⟨e,_⟩ |⟨j,e,hj⟩
 ·rw[e1]at e;cases e
 ·rw[e1]at e;cases e
  have:=h.lt _ _ hj
  omega
theorem Su(hA:CI n0 p xr bk ids qm bm gm rs k)(px:PX n0 h p xr bk ids qm bm gm l pl xp xo)(rt:RT h xr rs)(hy:rs[j]?=some y)(om:h.obj mb=some (Az env))(ow:h.obj vw=some (aP (rG w) 3 79))(bO:h.obj vr=some (aP (az y) 6 87))
  (hu:v_ bk k y.1) (hW:∀id,TW TQ n0 h id\/h.next<=id->W id)
  (he:∀e h',jq bk (rs.map (·.1)) k y.1.name (y.1.args.map fun a=>nY env a.name) w place l=.error e->PE n0 xr bk ids qm bm gm h' p e->Fr h h' (TW TQ n0 h)->QR [B false] h')
  (hk:∀l' fP fp fq h',jq bk (rs.map (·.1)) k y.1.name (y.1.args.map fun a=>nY env a.name) w place l=.ok l'->PX n0 h' p xr bk ids qm bm gm l' fP fp fq->Fr h h' (TW TQ n0 h)->fN.n2 W QR QN QE QP (.ptr p 0) x2 (.mp mb) (I place) (.ptr vw 0) (I j) h') :
  fN.bH W QR QN QE QP (.ptr p 0) x2 (.mp mb) (I place) (.ptr vw 0) (I j) (.ptr vr 0) h:=by
 obtain⟨ha,hl⟩:=rt.a y (zP hy)
 simp only[fN.bH,fN.a_,aj,au,bO,ap,zG,az,zA,zB,aa,ha.len.1,ha.len.2,zH]
 unfold fN.bj
 refine cy (ι:=Nat×AV) (fun i v h'=>v=[.ptr p 0,x2,.mp mb,I place,.ptr vw 0,I j,.ptr vr 0,i.2,y.2,I y.1.args.length,I i.1]/\i.1<=y.1.args.length/\Fr h h' (fun _=>False)/\cl cX 1 3 h' i.2 ((y.1.args.take i.1).map fun a=>nY env a.name)/\dC (h.next<=·) i.2) (fun i=>y.1.args.length-i.1) (0,aQ) ⟨rfl,by omega,Fr.refl,by simpa using cl.nil,fun _ _ _ e=>by cases e⟩ ?_
 rintro K ⟨i,x5⟩ v h1 ⟨rfl,hi,f1,hx,hs⟩ step
 simp only at hi hx hs step
 simp only[fN.iX,zN,zO,fN.aS,bc]
 have kI:=f1.bU bO
 by_cases aL:i<y.1.args.length
 ·have fH:(i:Int)<y.1.args.length:=by omega
  have g1:y.1.args[i]?=some y.1.args[i]:=zJ aL
  have lA:y.1.args.take (i+1)=y.1.args.take i++[y.1.args[i]]:=by rw[List.take_add_one,g1];rfl
  generalize y.1.args[i]=a at *
  simp only[zL fH,fN.n9,al,zD,zF,zC,zI,fN.n8]
  refine gD (ha.ba f1) Arg.bu (Arg.hZ a) g1 rfl rfl (fun id hid=>hW id (.inr (zR f1.next hid))) fun vn h2 f2 nO ov=>?_
  have bX:=f1.cj f2
  simp only[fN.n7,aj,au,ov,ap,zG,Arg.enc,zA,zB,aa]
  refine jo (enc:=Sb) kz z3 (bX.bU om) fun _=>?_
  rw[Nl]
  have w2:IntKind.i64.wrap ((i:Int)+1)=((i+1:Nat):Int):=by rw[aR (by omega) (by omega)];simp
  refine qA (f:=cX) (t:=nY env a.name) gJ (by omega) rfl (by omega) rfl rfl (hx.aU f2 fun _ _ h=>h) (fun id off n e=>hW id (.inr (hs id off n e))) (by rw[zZ,yA];omega) fun z h3 hz mJ f3=>?_
  have eO:Fr h h3 fun _=>False:=bX.trans (f3.mono fun j ⟨off,n,e⟩=>.inr (hs j off n e))
  simp only[fN.n6,aZ,w2]
  refine step (i+1,z) _ h3 (by simp only;omega) ⟨rfl,by simp only;omega,eO,?_,fun id off n e=>zR bX.next (mJ id off n e)⟩
  rw[lA,List.map_append]
  exact hz
 ·have eV:¬(i:Int)<y.1.args.length:=by omega
  have e:i=y.1.args.length:=by omega
  rw[e,List.take_length]at hx
  have mZ:=px.ba f1
  simp only[zK eV,fN.n9,al,zE,zD,zC,zH,zV,fN.n5,aj,au,kI,ap,zG,az,zA,zB,aa,zN,zO]
  refine dW (f1.bU ow) rfl fun _=>?_
  refine⟨TW TQ n0 h1,fun id hs _=>hW id (TW.back (TW.aU f1) hs),hA h1 _ _ y.1.name _ x5 w pl place xp xo l mZ (rt.ba f1) hx.dr (qj px.x hs) ?_ (fun _ h=>h) ?_ ?_⟩
  ·rcases hu with⟨u1,_⟩ |⟨jj,d,u1,u2,u3,u4,_⟩
   ·exact .inl u1
   ·exact .inr ⟨jj,d,u1,u2,u3,by simpa using u4⟩
  ·intro e h2 hb hp f2
   simp only[dA,zT,fN.n4,al,zD,zF,zC,zI,fN.n3]
   exact he e h2 hb hp (TW.trans (TW.aU f1) f2)
  ·intro l2 mc oP lm h2 hb ib f2
   simp only[dA,zS,fN.n4,al,zE,zD,zC,zH]
   exact hk l2 mc oP lm h2 hb ib (TW.trans (TW.aU f1) f2)
end
theorem GB.inv{bk:Bk}{k:Nat}{ps:List ByteArray}{r:Row}{l:List Row}(h:GB bk k ps (r::l)):(0<=r.rows/\r.rows<=l.length)/\GB bk k ps (l.drop r.rows.toNat)/\((r.kind=aT/\GB bk k ps (l.take r.rows.toNat))\/(r.kind≠aT/\v_ bk k r)):=by
 cases h with
 |Tm h0 h1 h2 h3 h4=>exact⟨by omega,by rw[h1];exact h4,.inr ⟨by rw[h0];decide,h2⟩⟩
 |Tz h0 h1 h2 h3=>exact⟨h1,h3,.inl ⟨h0,h2⟩⟩
section
variable {n0 p:Nat} {xr:AV} {bk:Bk} {ids:List Nat} {qm bm gm:Nat} {rs:List (Row×AV)} {k:Nat}
theorem OM(sc:SC bk rs)(hA:CI n0 p xr bk ids qm bm gm rs k)(n:Nat):JN n0 p xr bk ids qm bm gm rs k n:=by
 induction n using Nat.strongRecOn with
 |ind n ih=>
 intro h M R a env mb w pl place xp xo l ps px rt hn om hg hM he hk
 apply fN.aM
 unfold fN.eC
 refine dV rfl fun vw h1 f1 UB ow=>?_
 unfold fN.dZ fN.dS
 have hlen:=rt.n
 refine cy (ι:=Nat×OL×Int×AV×AV) (fun i v h'=>v=[.ptr p 0,I (a+n),.mp mb,I place,.ptr vw 0,I (a+(n-i.1:Nat):Int)]/\i.1<=n/\PX n0 h' p xr bk ids qm bm gm i.2.1 i.2.2.1 i.2.2.2.1 i.2.2.2.2/\GB bk k ps (sg rs (a+(n-i.1)) i.1)/\h'.obj vw=some (aP (rG w) 3 79) /\
  aW bk (rs.map (·.1)) k env w place (sg rs (a+(n-i.1)) i.1) i.2.1=aW bk (rs.map (·.1)) k env w place (sg rs a n) l/\Fr h h' (TW TQ n0 h)) (fun i=>i.1) (n,l,pl,xp,xo) ⟨by simp,zU _,px.ba f1,by simpa using hg,ow,by simp,TW.aU f1⟩ ?_
 rintro K ⟨m,l1,Bs,jD,iG⟩ v h2 ⟨rfl,hm,ib,lf,PY,bq,f2⟩ step
 simp only at hm ib lf bq step
 have q0:=rt.wS f2
 have KH:h2.obj mb=some (Az env):=TW.obj f2 om rfl
 have Ia:∀{h3:AH},Fr h h3 (TW TQ n0 h)->∀id,TW TQ n0 h3 id\/h3.next<=id->(M id\/h.next<=id):=fun{h3} f id hid=>hid.elim (fun hid=>(TW.back f hid).elim (fun h=>.inl (hM id h)) .inr) (fun hid=>.inr (zR f.next hid))
 unfold fN.cG
 simp only[zN,zO,fN.dn,bc]
 cases m with
 |zero=>
  have e1:decide ((a:Int)+(n-0:Nat)<a+n)=false:=by simp
  rw[vq,yn]at bq
  simp only[e1,fN.cU,al,zE,zD,zC,zH,zV,fN.n1]
  simpa using hk l1 Bs jD iG h2 bq.symm ib f2
 |succ m=>
  obtain⟨j,hj⟩:∃j,j=a+(n-(m+1)):=⟨_,rfl⟩
  have ej:(a:Int)+(n-(m+1):Nat)=(j:Int):=by omega
  have e1:decide ((j:Int)<a+n)=true:=by simp;omega
  rw[<-hj]at bq lf
  obtain⟨y,hy⟩:∃y,rs[j]?=some y:=⟨rs[j]'(by omega),zJ _⟩
  rw[xj hy]at bq lf
  rw[vW]at bq
  obtain⟨⟨b0,b1⟩,gd,gk⟩:=lf.inv
  rw[qX (by omega)]at b1
  obtain⟨kk,fI⟩:∃kk:Nat,y.1.rows=kk:=⟨y.1.rows.toNat,by omega⟩
  have lQ:kk<=m:=by omega
  rw[fI,zY,jR lQ,jS]at bq
  rw[fI,zY,jR lQ]at gk
  rw[fI,zY,jS]at gd
  have w1:∀x:Int,0<=x/\x<=1000000000->IntKind.i64.wrap x=x:=fun x hx=>aR (by omega) (by omega)
  simp only[e1,ej,fN.cU,al,zD,zF,zC,zI,fN.c9,aC,aj,au,ib.p,ap,zG,zA,aa]
  refine gD q0.r dT (q0.one hy) hy rfl rfl (fun id hid=>Ia f2 id (.inr hid)) fun vr h3 f3 _ ko=>?_
  have eO:=TW.trans f2 (TW.aU f3)
  have xu:=ib.ba f3
  have BS:∀l' fP fp fq h',aW bk (rs.map (·.1)) k env w place (sg rs (j+1+kk) (m-kk)) l'=aW bk (rs.map (·.1)) k env w place (sg rs a n) l->PX n0 h' p xr bk ids qm bm gm l' fP fp fq->Fr h3 h' (TW TQ n0 h3) ->
    fN.n2 (fun id=>M id\/h.next<=id) (aJ Pg [.tmp 12] R) K (fun(i:Nat) (vs:List AV) (h:AH)=>if i=0 then fN.n1 (fun id=>M id\/h.next<=id) (aJ Pg [.tmp 12] R) (aJ Pg [.tmp 12] R) (fun _ _ _=>False) (fun v h=>R (.bW v) h) h else False) (fun v h=>R (.bW v) h) (.ptr p 0) (I (a+n)) (.mp mb) (I place) (.ptr vw 0) (I j) h':=fun l' fP fp fq h' tO Kj f'=>by
   have iP:=TW.trans eO f'
   simp only[fN.n2,aC,aj,au,Kj.p,ap,zG,zA,aa]
   refine dJ (k:=4) (rt.wS iP).r dT hy (by omega) rfl fun _=>?_
   rw[fI]
   simp only[aZ,w1 (1+(kk:Int)) (by omega),w1 ((j:Int)+(1+kk)) (by omega)]
   have e8:j+1+kk=a+(n-(m-kk)):=by omega
   have e9:(j:Int)+(1+kk)=a+(n-(m-kk):Nat):=by omega
   rw[e8]at tO gd
   exact step (m-kk,l',fP,fp,fq) _ h' (by simp only;omega) ⟨by rw[<-e9],by simp only;omega,Kj,gd,TW.obj f' (f3.bU PY) rfl,tO,iP⟩
  have e4:(⟨#[114,101,112,101,97,116]⟩:ByteArray)=aT:=rfl
  simp only[fN.cB,aj,au,ko,ap,zG,az,zA,zB,aa,br,e4]
  have Fk:=f3.bU PY
  rcases gk with⟨g1,g2⟩ |⟨g1,g2⟩
  ·rw[zX g1]at bq
   simp only[zL g1,fN.cC,al,zD,zF,zC,zI]
   refine Sv (ih kk (by omega)) xu (rt.wS eO) (by omega) (TW.obj eO om rfl) Fk ko fI g2 (Ia eO) ?_ ?_ (sc.nm y (zP hy))
   ·intro e h4 hb hp f4
    rw[hb]at bq
    simpa using he e h4 bq.symm hp (TW.trans eO f4)
   ·intro l' fP fp fq h4 hb uJ f4
    rw[hb]at bq
    exact BS l' fP fp fq h4 bq uJ f4
  ·rw[zW g1]at bq
   simp only[zK g1,fN.cC,al,zE,zD,zC,zH]
   refine Su hA xu (rt.wS eO) hy (TW.obj eO om rfl) Fk ko g2 (Ia eO) ?_ ?_
   ·intro e h4 hb hp f4
    rw[hb]at bq
    simpa using he e h4 bq.symm hp (TW.trans eO f4)
   ·intro l' fP fp fq h4 hb uJ f4
    rw[hb]at bq
    exact BS l' fP fp fq h4 bq uJ f4
end
end
section
open Go.Ab
attribute [-simp] aV aE
section
variable {n0 p:Nat} {xr:AV} {bk:Bk} {ids:List Nat} {qm bm gm:Nat} {rs:List (Row×AV)} {k:Nat}
theorem Ai{bk:Bk}{L:List Row}{nm:ByteArray}{qs:List Int}{w:hN}{pl:Int}{l:OL}(h:eB bk.ds nm=none):jq bk L k nm qs w pl l=j8 l (kx 1 nm qs 0 w) pl:=by
 unfold jq
 rw[Jt h]
theorem Ah{bk:Bk}{L:List Row}{d:bS}{j:Nat}{qs:List Int}{w:hN}{pl:Int}{l:OL}(a:li bk)(hd:bk.ds[j]?=some d)(hj:j<k):jq bk L k d.name qs w pl l=if d.ops=0 then .ok l else aW bk L j (d.params.zip qs) w pl (te L d) l:=by
 unfold jq
 rw[OC a hd]
 simp only[hd,zX hj]
theorem Ma(sc:SC bk rs)(hB:∀j n,j<k->JN n0 p xr bk ids qm bm gm rs j n):CI n0 p xr bk ids qm bm gm rs k:=by
 intro h M R nm qs xq w pl place xp xo l px rt hq sep tN hM he hk
 apply mU.aM
 unfold mU.b5
 refine dV rfl fun vw h1 f1 UB ow=>?_
 have mZ:=px.ba f1
 have zt:∀{h3:AH},Fr h h3 (TW TQ n0 h)->∀id,TW TQ n0 h3 id->(M id\/h.next<=id):=fun{h3} f id hid=>(TW.back f hid).elim (fun h=>.inl (hM id h)) .inr
 simp only[mU.bR,aC,aj,au,mZ.p,ap,zG,zA,zB,aa]
 refine jo (enc:=Sb) kz z87 mZ.m.g fun _=>?_
 rcases tN with tN |⟨j,d,hj,hd,zq,hlen⟩
 ·rw[Ai tN]at he hk
  rcases oN (n:=nm) mZ.m.len with⟨e1,_⟩ |⟨k',d',id,_,e2,_,_⟩
  ·rw[e1]
   simp only[im,zV,dE,zA,zB,aa,mU.bV,dA,zT,mU.bP,al,zD,zF,zC,zI,mU.bH]
   refine⟨[I 1,Sb nm,xq,I 0,B false,U 0,U 0],?_,?_⟩
   ·simp[dU,bt,dt,kQ,hq.one.2]
   ·refine dW ow rfl fun _=>?_
    refine⟨TW TQ n0 h1,fun id hs _=>zt (TW.aU f1) id hs,Fe mZ (hq.ba f1) sep (fun _ h=>h) ?_ ?_⟩
    ·intro h2 hb hp f2
     simpa using he _ h2 hb hp (TW.trans (TW.aU f1) f2)
    ·intro l' fP fp fq h2 hb ib f2
     simpa using hk l' fP fp fq h2 hb ib (TW.trans (TW.aU f1) f2)
  ·rw[tN]at e2;cases e2
 ·subst zq
  rw[Ah sc.bf.i hd hj]at he hk
  obtain⟨id,i1,i2,xd,od,hxd⟩:=C7 mZ.m sc.bf.i hd
  rw[i2]
  simp only[im,zV,dE,zA,zB,aa,mU.bV,dA,zS,mU.bP,al,zE,zD,zC,zH,mU.a_,aC,aj,au,od,ap,zG,eG]
  by_cases k1:d.ops=0
  ·rw[zX k1]at hk
   have eI:(d.ops==0)=true:=by simp[k1]
   simp only[eI,mU.bj,al,zD,zF,zC,zI,mU.aS]
   simpa using hk l pl xp xo h1 rfl mZ (TW.aU f1)
  ·rw[zW k1]at he hk
   have eI:(d.ops==0)=false:=by simpa using k1
   simp only[eI,mU.bj,al,zE,zD,zC,zH,mU.n9]
   refine AA (enc:=Sb) fun mb h2 KH X5 f2=>?_
   have bX:=f1.cj f2
   have P0:=f2.bU od
   have NC:cl iL 1 9 h2 xd d.params:=hxd.aU f2 fun _ _ h=>h
   simp only[mU.n8,aC,aj,au,P0,ap,zG,zA,zB,aa,NC.dr.len.1,NC.dr.len.2,zH]
   have iw:=(sc.bf.i.ok.ds d (zP hd)).1
   have U5:=(sc.bf.a d (zP hd)).2
   have HW:cK cX 1 3 h2 xq qs:=hq.ba bX
   unfold mU.n7
   refine cy (ι:=Nat) (fun i v h'=>v=[.ptr p 0,xq,I place,.ptr vw 0,.ptr id 0,.mp mb,xd,I d.params.length,I i]/\i<=d.params.length/\Fr h2 h' (·=mb)/\h'.obj mb=some (Az ((d.params.zip qs).take i))) (fun i=>d.params.length-i) 0 ⟨rfl,by omega,Fr.refl,by rw[List.take_zero];exact KH⟩ ?_
   rintro K i v h3 ⟨rfl,hi,f3,Fm⟩ step
   have dH:∀{x:Nat}{o:AO},h2.obj x=some o->o.ty≠135->h3.obj x=some o:=fun ho dx=>f3.obj ho (fun e=>by subst e;rw[KH]at ho;cases ho;exact dx rfl)
   have ZG:cK iL 1 9 h3 xd d.params:=NC.dr.fr f3 fun x o ho ht e=>by subst e;rw[KH]at ho;cases ho;exact absurd (ht rfl) (show(135:Nat)≠9 by decide)
   have hq3:cK cX 1 3 h3 xq qs:=HW.fr f3 fun x o ho ht e=>by subst e;rw[KH]at ho;cases ho;exact absurd (ht rfl) (show(135:Nat)≠3 by decide)
   have fz:Fr h h3 fun _=>False:=bX.trans (f3.mono fun x e=>.inr (by subst e;exact zR f1.next X5))
   simp only[mU.cG,zN,zO,mU.n6,bc]
   by_cases aL:i<d.params.length
   ·have fH:(i:Int)<d.params.length:=by omega
    have g1:d.params[i]?=some d.params[i]:=zJ aL
    have g2:qs[i]?=some (qs[i]'(by omega)):=zJ _
    have tk:(d.params.zip qs).take (i+1)=(d.params.zip qs).take i++[(d.params[i],qs[i]'(by omega))]:=by
     rw[List.take_add_one,show(d.params.zip qs)[i]?=some (d.params[i],qs[i]'(by omega)) from List.getElem?_zip_eq_some.2 ⟨g1,g2⟩];rfl
    have je:fw d.params[i] (((d.params.zip qs).take i).map fun x=>(x.1,I x.2))=none:=by
     have hm:fe d.params[i] (d.params.take i)=false:=by
      cases hx:fe d.params[i] (d.params.take i) with
      |false=>rfl
      |true=>rw[show ux d.params=true from vf g1 hx]at U5;cases U5
     have h5:=mu (n:=d.params[i]) (l:=((d.params.zip qs).take i).map fun x=>(x.1,I x.2))
     have h6:(((d.params.zip qs).take i).map fun x=>(x.1,I x.2)).map (·.1)=d.params.take i:=by
      rw[List.map_map]
      show((d.params.zip qs).take i).map (fun x=>x.1)=_
      rw[List.map_take,List.map_fst_zip (by omega)]
     rw[h6,hm]at h5
     cases hy:fw d.params[i] (((d.params.zip qs).take i).map fun x=>(x.1,I x.2)) with
     |none=>rfl
     |some _=>rw[hy]at h5;cases h5
    have w1:IntKind.i64.wrap ((i:Int)+1)=((i+1:Nat):Int):=by rw[aR (by omega) (by omega)];simp
    simp only[zL fH,mU.n5,al,zD,zF,zC,zI,mU.n4]
    refine ja ZG (fun _=>rfl) g1 rfl fun _=>?_
    simp only[mU.n3]
    refine ja hq3 (fun _=>rfl) g2 rfl fun _=>?_
    refine vu (enc:=Sb) (n:=d.params[i]) kz (.inr (zR f1.next X5)) Fm je fun h4 om4 f4=>?_
    simp only[mU.n2,aZ,w1]
    refine step (i+1) _ h4 (by omega) ⟨rfl,by omega,f3.trans (f4.mono fun _ h=>.inl h),?_⟩
    rw[tk,om4,Az,List.map_append]
    rfl
   ·have eV:¬(i:Int)<d.params.length:=by omega
    have e:i=d.params.length:=by omega
    rw[e,List.take_of_length_le (by rw[List.length_zip];omega)]at Fm
    obtain⟨a,n,ha,hn,Vc,U1⟩:=sc.dk j d hd
    have xu:=px.ba fz
    have U9:te (rs.map (·.1)) d=sg rs a n:=by
     unfold te
     rw[ha,hn,po]
     congr 1
     omega
    rw[U9]at he hk
    have od3:=dH P0 (show(116:Nat)≠135 by decide)
    have Fk:=dH (f2.bU ow) (show(79:Nat)≠135 by decide)
    simp only[zK eV,mU.n5,al,zE,zD,zC,zH,zV,mU.n1,zN,zO,aC,aj,au,od3,ap,zG,zA,zB,aa,ha,hn]
    refine dW Fk rfl fun _=>?_
    refine⟨TW TQ n0 h3,fun id hs _=>zt (TW.aU fz) id hs,hB j n hj h3 _ _ a _ mb w pl place xp xo l d.params xu (rt.ba fz) (by simpa using Vc) Fm (by rw[po];exact U1) (fun _ h=>h) ?_ ?_⟩
    ·intro e h4 hb hp f4
     simpa using he e h4 hb hp (TW.trans (TW.aU fz) f4)
    ·intro l' fP fp fq h4 hb uJ f4
     simpa using hk l' fP fp fq h4 hb uJ (TW.trans (TW.aU fz) f4)
theorem Jz(sc:SC bk rs):CI n0 p xr bk ids qm bm gm rs k:=by
 induction k using Nat.strongRecOn with
 |ind k ih=>exact Ma sc fun j n hj=>OM sc (ih j hj) n
end
end
section
open Go.Ab
attribute [-simp] aV aE
theorem xA{t:TypeId}{c:Bool}{x y:Int}{K:AV->Prop}:ai Pg .and t c (U x) (U y) K=K (U (kE x y)):=by
 simp[ai,kE]
theorem Fj{t:TypeId}{c:Bool}{x y:Int}{K:AV->Prop}:ai Pg .or t c (U x) (U y) K=K (U (wx x y)):=by
 simp[ai,wx]
theorem DG{t:TypeId}{c:Bool}{x y:Int}{K:AV->Prop}:ai Pg .sub t c (U x) (U y) K=K (U (IntKind.u64.wrap (x-y))):=by
 simp[ai]
theorem xx{t:TypeId}{c:Bool}{x y:Int}{K:AV->Prop}:ai Pg .neq t c (U x) (U y) K=K (B (x != y)):=by
 simp[ai]
theorem Ky{n:Int}{K:AV->Prop}:ql (some .u64) (I n) K=K (U (IntKind.u64.wrap n)):=rfl
def Ws(n0 p:Nat)(xr:AV)(bk:Bk)(ids:List Nat)(qm bm gm:Nat)(rs:List (Row×AV))(n:Nat):Prop:=
 ∀(h:AH)(M:Nat->Prop)(R:AE->AH->Prop)(a:Nat)(w:hN)(pl:Int)(xp xo:AV)(l:OL),PX n0 h p xr bk ids qm bm gm l pl xp xo->RT h xr rs->a+n<=rs.length->GO bk (sg rs a n)->(∀id,TW TQ n0 h id->M id) ->
  (∀e h',iA bk (rs.map (·.1)) w (sg rs a n) l=.error e->PE n0 xr bk ids qm bm gm h' p e->Fr h h' (TW TQ n0 h)->R (.ret (B false)) h') ->
  (∀l' fP fp fq h',iA bk (rs.map (·.1)) w (sg rs a n) l=.ok l'->PX n0 h' p xr bk ids qm bm gm l' fP fp fq->Fr h h' (TW TQ n0 h)->R (.ret (B true)) h') ->
  aA Pg 24 [.ptr p 0,I a,I (a+n),.agg (rG w)] h M R
section
variable {W:Nat->Prop} {QR QN:VK} {QE:Nat->VK} {QP:AV->AH->Prop} {h:AH} {n0 p vw vr:Nat} {xr xp xo x2:AV} {bk:Bk} {ids:List Nat} {qm bm gm:Nat} {l:OL} {pl:Int} {rs:List (Row×AV)} {w:hN} {y:Row×AV} {j kk:Nat} {one:Except Int OL}
structure DK (W:Nat->Prop) (QR QN:VK) (QE:Nat->VK) (QP:AV->AH->Prop) (h:AH) (n0 p vw vr:Nat) (xr xp xo x2:AV) (bk:Bk) (ids:List Nat) (qm bm gm:Nat) (l:OL) (pl:Int) (rs:List (Row×AV)) (w:hN) (y:Row×AV) (j:Nat) (one:Except Int OL):Prop where
 sc:SC bk rs
 px:PX n0 h p xr bk ids qm bm gm l pl xp xo
 rt:RT h xr rs
 hy:rs[j]?=some y
 ow:h.obj vw=some (aP (rG w) 3 79)
 bO:h.obj vr=some (aP (az y) 6 87)
 hW:∀id,TW TQ n0 h id\/h.next<=id->W id
 he:∀e h',one=.error e->PE n0 xr bk ids qm bm gm h' p e->Fr h h' (TW TQ n0 h)->QR [B false] h'
 hk:∀l' fP fp fq h',one=.ok l'->PX n0 h' p xr bk ids qm bm gm l' fP fp fq->Fr h h' (TW TQ n0 h)->dQ.n2 W QR QN QE QP (.ptr p 0) x2 (.ptr vw 0) (I j) h'
theorem y4(k:DK W QR QN QE QP h n0 p vw vr xr xp xo x2 bk ids qm bm gm l pl rs w y j one){e:Int}{h':AH}(h1:one=.error e)(h2:PE n0 xr bk ids qm bm gm h' p e)(h3:Fr h h' (TW TQ n0 h)):dQ.n5 W QR QN QE QP (.ptr p 0) x2 (.ptr vw 0) (I j) (B false) h':=by
 simp only[dQ.n5,dA,zT,dQ.n4,al,zD,zF,zC,zI,dQ.n3]
 exact k.he e h' h1 h2 h3
theorem wj(k:DK W QR QN QE QP h n0 p vw vr xr xp xo x2 bk ids qm bm gm l pl rs w y j one){l':OL}{fP:Int}{fp fq:AV}{h':AH}(h1:one=.ok l')(h2:PX n0 h' p xr bk ids qm bm gm l' fP fp fq)(h3:Fr h h' (TW TQ n0 h)):dQ.n5 W QR QN QE QP (.ptr p 0) x2 (.ptr vw 0) (I j) (B true) h':=by
 simp only[dQ.n5,dA,zS,dQ.n4,al,zE,zD,zC,zH]
 exact k.hk l' fP fp fq h' h1 h2 h3
theorem SR(hB:Ws n0 p xr bk ids qm bm gm rs kk)(k:DK W QR QN QE QP h n0 p vw vr xr xp xo x2 bk ids qm bm gm l pl rs w y j (gv (iA bk (rs.map (·.1)) w (sg rs (j+1) kk)) y.1.num.toNat l))(hj:j+1+kk<=rs.length)(xP:y.1.rows=kk)(hg:GO bk (sg rs (j+1) kk)) :
  dQ.bR W QR QN QE QP (.ptr p 0) x2 (.ptr vw 0) (I j) (.ptr vr 0) (B true) h:=by
 unfold dQ.bR dQ.bV
 have hlen:=k.rt.n
 have sP:=k.sc.nm y (zP k.hy)
 refine cy (ι:=(Nat×Bool)×OL×Int×AV×AV) (fun i v h'=>v=[.ptr p 0,x2,.ptr vw 0,I j,.ptr vr 0,B i.1.2,I (y.1.num.toNat-i.1.1:Nat)]/\i.1.1<=y.1.num.toNat/\PX n0 h' p xr bk ids qm bm gm i.2.1 i.2.2.1 i.2.2.2.1 i.2.2.2.2 /\
  (i.1.2=true->gv (iA bk (rs.map (·.1)) w (sg rs (j+1) kk)) i.1.1 i.2.1=gv (iA bk (rs.map (·.1)) w (sg rs (j+1) kk)) y.1.num.toNat l) /\
  (i.1.2=false->gv (iA bk (rs.map (·.1)) w (sg rs (j+1) kk)) y.1.num.toNat l=.error i.2.2.1)/\Fr h h' (TW TQ n0 h)) (fun i=>i.1.1) ((y.1.num.toNat,true),l,pl,xp,xo) ⟨by simp,zU _,k.px,fun _=>rfl,(fun h=>by cases h),TW.aU Fr.refl⟩ ?_
 rintro K ⟨⟨c,Jp⟩,l1,Bs,jD,iG⟩ v h1 ⟨rfl,hc,mZ,bq,oL,f1⟩ step
 simp only at hc mZ bq oL step
 have kI:h1.obj vr=some (aP (az y) 6 87):=TW.obj f1 k.bO rfl
 have HK:h1.obj vw=some (aP (rG w) 3 79):=TW.obj f1 k.ow rfl
 have fin:(Jp=true->gv (iA bk (rs.map (·.1)) w (sg rs (j+1) kk)) y.1.num.toNat l=.ok l1)->dQ.n5 W QR QN QE QP (.ptr p 0) x2 (.ptr vw 0) (I j) (B Jp) h1:=fun hf=>by
  cases Jp with
  |true=>exact wj k (hf rfl) mZ f1
  |false=>exact y4 k (oL rfl) ⟨_,_,_,mZ⟩ f1
 simp only[dQ.iX,zN,zO,dQ.bP,aj,au,kI,ap,zG,az,zA,zB,aa,bc]
 cases c with
 |zero=>
  have e1:decide (((y.1.num.toNat-0:Nat):Int)<y.1.num)=false:=by simp;omega
  simp only[gv]at bq
  simp only[e1,dQ.bH,cA,zS,zE,zD,zC,zH,dQ.a_,bK,if_false,dQ.bj,al,zV,zN,zO]
  exact fin fun hf=>(bq hf).symm
 |succ c=>
  have e1:decide (((y.1.num.toNat-(c+1):Nat):Int)<y.1.num)=true:=by simp;omega
  simp only[e1,dQ.bH,cA,zS,zD,zF,zC,zI,dQ.a_,bK,zV,dQ.bj]
  cases Jp with
  |false=>
   simp only[al,zE,zD,zC,zH,zV,zN,zO]
   exact fin (fun h=>by cases h)
  |true=>
   have w1:∀x:Int,0<=x/\x<=1000000000->IntKind.i64.wrap x=x:=fun x hx=>aR (by omega) (by omega)
   have bq:=bq rfl
   simp only[gv]at bq
   simp only[al,zD,zF,zC,zI,dQ.aS,aC,aj,au,mZ.p,ap,zG,Nat.reduceAdd,zA,zB,aa,mZ.gH.1,mZ.gH.2,zH,dQ.n9,kI,az,xP,aZ,w1 ((j:Int)+1) (by omega),w1 ((j:Int)+1+kk) (by omega)]
   refine dW HK rfl fun _=>?_
   have w3:IntKind.i64.wrap (((y.1.num.toNat-(c+1):Nat):Int)+1)=((y.1.num.toNat-c:Nat):Int):=by rw[aR (by omega) (by omega)];omega
   have Yv:∀(yR:Bool) l2 mc oP lm h2,PX n0 h2 p xr bk ids qm bm gm l2 mc oP lm->Fr h h2 (TW TQ n0 h) ->
     (yR=true->(if l2.length=l1.length then Except.ok l2 else gv (iA bk (rs.map (·.1)) w (sg rs (j+1) kk)) c l2)=gv (iA bk (rs.map (·.1)) w (sg rs (j+1) kk)) y.1.num.toNat l) ->
     (yR=false->gv (iA bk (rs.map (·.1)) w (sg rs (j+1) kk)) y.1.num.toNat l=.error mc) ->
     dQ.n8 W QR K (fun(i:Nat) (vs:List AV) (h:AH)=>if i=3 then dQ.n5 W QR QN QE QP (vs.getD 0 ab) (vs.getD 1 ab) (vs.getD 2 ab) (vs.getD 3 ab) (vs.getD 4 ab) h else if i=2 then dQ.n5 W QR QN QE QP (vs.getD 0 ab) (vs.getD 1 ab) (vs.getD 2 ab) (vs.getD 3 ab) (vs.getD 4 ab) h else if i=1 then dQ.n2 W QR QN QE QP (vs.getD 0 ab) (vs.getD 1 ab) (vs.getD 2 ab) (vs.getD 3 ab) h else QE i vs h) QP (.ptr p 0) x2 (.ptr vw 0) (I j) (.ptr vr 0) (B yR) (I (y.1.num.toNat-(c+1):Nat)) (I l1.length) h2:=fun yR l2 mc oP lm h2 ib f2 hq hf=>by
    simp only[dQ.n8,aC,aj,au,ib.p,ap,zG,Nat.reduceAdd,zA,zB,aa,ib.gH.1,ib.gH.2,zH,eG]
    by_cases k1:l2.length=l1.length
    ·have eI:((l2.length:Int)==(l1.length:Int))=true:=by rw[k1];simp
     simp only[eI,dQ.n7,al,zD,zF,zC,zI,zV,zN,zO]
     cases yR with
     |true=>
      have:=hq rfl
      rw[zX k1]at this
      exact wj k this.symm ib f2
     |false=>exact y4 k (hf rfl) ⟨_,_,_,ib⟩ f2
    ·have eI:((l2.length:Int)==(l1.length:Int))=false:=by simp;omega
     simp only[eI,dQ.n7,al,zE,zD,zC,zH,dQ.n6,aZ,w3]
     refine step ((c,yR),l2,mc,oP,lm) _ h2 (by simp only;omega) ⟨rfl,by simp only;omega,ib,fun hh=>?_,hf,f2⟩
     have:=hq hh
     rwa [zW k1]at this
   refine⟨TW TQ n0 h1,fun id hs _=>k.hW id (TW.back f1 hs),hB h1 _ _ (j+1) w Bs jD iG l1 mZ (k.rt.wS f1) hj hg (fun _ h=>h) ?_ ?_⟩
   ·intro e h2 hb hp f2
    rw[hb]at bq
    obtain⟨l2,oP,lm,ib⟩:=hp
    exact Yv false l2 e oP lm h2 ib (TW.trans f1 f2) (fun h=>by cases h) (fun _=>bq.symm)
   ·intro l2 mc oP lm h2 hb ib f2
    rw[hb]at bq
    exact Yv true l2 mc oP lm h2 ib (TW.trans f1 f2) (fun _=>bq) (fun h=>by cases h)
end
end
section
open Go.Ab
attribute [-simp] aV aE
theorem VJ{xq:AV}(hq:cJ xq=some [xq]){k b:Int}:dU (fun i=>[(0,1),(1,1),(2,1),(3,1),(4,1),(5,1),(6,1)][i]?) ([Value.int .i64 0,.string ⟨#[]⟩,.slice none 0 0,.int .i64 0,.bool false,.int .u64 0,.int .u64 0].map .sc) [(0,I k),(2,xq),(3,I b)]=some [I k,Sb ⟨#[]⟩,xq,I b,B false,U 0,U 0]:=by
 simp[dU,bt,dt,kQ,hq]
theorem VI{xq:AV}(hq:cJ xq=some [xq]){k:Int}:dU (fun i=>[(0,1),(1,1),(2,1),(3,1),(4,1),(5,1),(6,1)][i]?) ([Value.int .i64 0,.string ⟨#[]⟩,.slice none 0 0,.int .i64 0,.bool false,.int .u64 0,.int .u64 0].map .sc) [(0,I k),(2,xq)]=some [I k,Sb ⟨#[]⟩,xq,I 0,B false,U 0,U 0]:=by
 simp[dU,bt,dt,kQ,hq]
theorem CJ{K:AV->Nat->Prop}{cs:List AV}{vn sz:Nat}{ty:TypeId}{h:AH}(ho:h.obj vn=some (aP cs sz ty))(hc:cs.length=sz)(hK:K (.agg cs) vn):ao (some true) (some sz) (.ptr vn 0) h K:=by
 simp only[kU,ho,jX,zG,List.drop_zero]
 refine⟨by omega,?_⟩
 rw[List.take_of_length_le (by omega)];exact hK
theorem Rq{α:Type}{f:α->List AV}{sz:Nat}{ty:TypeId}{h:AH}{x:AV}{a:α}{r:List α}(hl:cK f sz ty h x (a::r)):∃id,x=.sl id 0 (a::r).length/\cK f sz ty h (.sl id 0 1) [a]:=by
 rcases hl with⟨_,e⟩ |⟨_,_,_,e⟩ |⟨id,rest,ro,mC,e1,e2,e3⟩
 ·cases e
 ·cases e
 ·exact⟨id,e1,.inr (.inr ⟨id,r.flatMap f++rest,ro,mC,rfl,e2,by rw[e3];simp⟩)⟩
theorem HP{l:List gK}{a:Arg}(hs:∀r∈l,1<=r.size/\0<=r.from_/\r.from_+r.size<=aK l)(ht:aK l<=64)(h:gU l a=0):∃g,eF l a.name=some g/\IntKind.i64.wrap (g.from_+a.index)=fR l a:=by
 obtain⟨g,hg,i0,i1⟩:=Q6 h
 have:=hs g (List.mem_of_find?_eq_some hg)
 refine⟨g,hg,?_⟩
 unfold fR
 rw[hg]
 exact aR (by omega) (by omega)
section
variable {W:Nat->Prop} {QR QN:VK} {QE:Nat->VK} {QP:AV->AH->Prop} {h:AH} {n0 p vw vr:Nat} {xr xp xo x2:AV} {bk:Bk} {ids:List Nat} {qm bm gm:Nat} {l:OL} {pl:Int} {rs:List (Row×AV)} {w:hN} {y:Row×AV} {j kk:Nat} {one:Except Int OL}
theorem DK.loc(k:DK W QR QN QE QP h n0 p vw vr xr xp xo x2 bk ids qm bm gm l pl rs w y j one){M:Nat->Prop}{R:AE->AH->Prop}{x1:AV}{args:List Arg}(ha:cK Arg.enc 2 92 h x1 args)(hl:args.length<=100000000)(o_:∀a∈args,gU bk.qs a=0)
  (hR:∀y h',cl cX 1 3 h' y (args.map (fR bk.qs))->Sep xp y->Fr h h' (fun _=>False)->R (.ret y) h'):aA Pg 66 [.ptr p 0,x1] h M R:=
 I1 k.px.p rfl k.px.m k.sc.bf.i.ok ha hl o_ fun y h' h1 h2 h3=>hR y h' h1 (qj k.px.x h2) h3
theorem SQ(k:DK W QR QN QE QP h n0 p vw vr xr xp xo x2 bk ids qm bm gm l pl rs w y j (jq bk (rs.map (·.1)) bk.ds.length y.1.name (y.1.args.map (fR bk.qs)) w y.1.place l))(hu:v_ bk bk.ds.length y.1)(o_:∀a∈y.1.args,gU bk.qs a=0) :
  dQ.cL W QR QN QE QP (.ptr p 0) x2 (.ptr vw 0) (I j) (.ptr vr 0) h:=by
 obtain⟨ha,hl⟩:=k.rt.a y (zP k.hy)
 unfold dQ.cL
 refine⟨fun i=>if i=7 then vw else vr,fun i _=>by show h.obj (if i=7 then vw else vr)≠none;split<;>simp[k.ow,k.bO],?_⟩
 simp only[aj,au,k.bO,ap,zG,az,zA,zB,aa]
 refine⟨by simp,?_⟩
 refine CJ k.ow rfl ⟨rfl,⟨by simp,?_⟩⟩
 refine⟨fun _=>False,fun _ h=>h.elim,k.loc ha hl o_ fun z h1 hz FM f1=>?_⟩
 refine⟨TW TQ n0 h1,fun id hs _=>k.hW id (TW.back (TW.aU f1) hs),Jz (k:=bk.ds.length) k.sc h1 _ _ y.1.name _ z w pl y.1.place xp xo l (k.px.ba f1) (k.rt.ba f1) hz.dr FM ?_ (fun _ h=>h) ?_ ?_⟩
 ·rcases hu with⟨u1,_⟩ |⟨jj,d,u1,u2,u3,u4,_⟩
  ·exact .inl u1
  ·exact .inr ⟨jj,d,u1,u2,u3,by simpa using u4⟩
 ·intro e h2 hb hp f2
  exact y4 k hb hp (TW.trans (TW.aU f1) f2)
 ·intro l2 mc oP lm h2 hb ib f2
  exact wj k hb ib (TW.trans (TW.aU f1) f2)
theorem Mp(k:DK W QR QN QE QP h n0 p vw vr xr xp xo x2 bk ids qm bm gm l pl rs w y j (j8 l (kx 3 ByteArray.empty (y.1.args.map (fR bk.qs)) 0 w) y.1.place))(o_:∀a∈y.1.args,gU bk.qs a=0) :
  dQ.cC W QR QN QE QP (.ptr p 0) x2 (.ptr vw 0) (I j) (.ptr vr 0) h:=by
 obtain⟨ha,hl⟩:=k.rt.a y (zP k.hy)
 unfold dQ.cC
 refine⟨fun i=>if i=6 then vw else vr,fun i _=>by show h.obj (if i=6 then vw else vr)≠none;split<;>simp[k.ow,k.bO],?_⟩
 simp only[aj,au,k.bO,ap,zG,az,zA,zB,aa]
 refine CJ k.ow rfl ⟨rfl,⟨by simp,?_⟩⟩
 refine⟨fun _=>False,fun _ h=>h.elim,k.loc ha hl o_ fun z h1 hz FM f1=>?_⟩
 refine⟨_,VI hz.dr.one.2,?_⟩
 refine⟨TW TQ n0 h1,fun id hs _=>k.hW id (TW.back (TW.aU f1) hs),Fe (k.px.ba f1) hz.dr FM (fun _ h=>h) ?_ ?_⟩
 ·intro h2 hb hp f2
  exact y4 k hb hp (TW.trans (TW.aU f1) f2)
 ·intro l2 mc oP lm h2 hb ib f2
  exact wj k hb ib (TW.trans (TW.aU f1) f2)
theorem Pl{a b:Arg}(pJ:y.1.args=[a,b])(k:DK W QR QN QE QP h n0 p vw vr xr xp xo x2 bk ids qm bm gm l pl rs w y j (j8 l (kx 2 ByteArray.empty [fR bk.qs a] (fR bk.bs b) w) y.1.place))(h0:gU bk.qs a=0)(h1:gU bk.bs b=0) :
  dQ.cF W QR QN QE QP (.ptr p 0) x2 (.ptr vw 0) (I j) (.ptr vr 0) h:=by
 obtain⟨ha,hl⟩:=k.rt.a y (zP k.hy)
 rw[pJ]at ha
 obtain⟨g,hg,w1⟩:=HP k.sc.bf.i.ok.sb k.sc.bf.i.ok.tb.2 h1
 simp only[dQ.cF,aC,aj,au,k.px.p,k.bO,ap,zG,az,zA,zB,aa]
 refine dJ (i:=1) (k:=0) ha Arg.bu rfl (by omega) rfl fun _=>?_
 refine jo (enc:=Sb) kz z93 k.px.m.b fun _=>?_
 rw[lY,hg]
 simp only[yB,im,zE,if_false,vR]
 refine⟨_,rfl,?_⟩
 refine dJ (i:=1) (k:=1) ha Arg.bu rfl (by omega) rfl fun _=>?_
 simp only[aZ,w1]
 obtain⟨id,e1,aaF⟩:=Rq ha
 unfold dQ.cS
 refine⟨fun i=>if i=8 then vw else vr,fun i _=>by show h.obj (if i=8 then vw else vr)≠none;split<;>simp[k.ow,k.bO],?_⟩
 simp only[aj,au,k.bO,ap,zG,az,zA,zB,aa]
 rw[e1]
 refine L3 (n:=1) (by simp) ?_
 refine CJ k.ow rfl ⟨rfl,⟨by simp,?_⟩⟩
 refine⟨fun _=>False,fun _ h=>h.elim,k.loc aaF (by simp) (fun c hc=>by have:=List.mem_singleton.1 hc;subst this;exact h0) fun z h1 hz FM f1=>?_⟩
 refine⟨_,VJ hz.dr.one.2,?_⟩
 refine⟨TW TQ n0 h1,fun id hs _=>k.hW id (TW.back (TW.aU f1) hs),Fe (k.px.ba f1) hz.dr FM (fun _ h=>h) ?_ ?_⟩
 ·intro h2 hb hp f2
  exact y4 k hb hp (TW.trans (TW.aU f1) f2)
 ·intro l2 mc oP lm h2 hb ib f2
  exact wj k hb ib (TW.trans (TW.aU f1) f2)
theorem Wb{g:gK}(hB:Ws n0 p xr bk ids qm bm gm rs kk)(kB:eF bk.bs y.1.name=some g)(k:DK W QR QN QE QP h n0 p vw vr xr xp xo x2 bk ids qm bm gm l pl rs w y j (match oe w g y.1.num with |none=>.ok l |some w'=>iA bk (rs.map (·.1)) w' (sg rs (j+1) kk) l))
  (hj:j+1+kk<=rs.length) (xP:y.1.rows=kk) (hg:GO bk (sg rs (j+1) kk)):dQ.cw W QR QN QE QP (.ptr p 0) x2 (.ptr vw 0) (I j) (.ptr vr 0) h:=by
 have hlen:=k.rt.n
 simp only[dQ.cw,aC,aj,au,k.px.p,k.bO,ap,zG,az,zA,zB,aa]
 refine jo (enc:=Sb) kz z93 k.px.m.b fun _=>?_
 rw[lY,kB]
 simp only[yB,im,zE,if_false,vR]
 have hs:=k.sc.bf.i.ok.sb g (List.mem_of_find?_eq_some kB)
 refine jt (cs:=[I g.from_,I g.size]) rfl rfl rfl rfl (fun id hid=>k.hW id (.inr hid)) fun v1 h1 f1 _ ov=>?_
 have kI:=f1.bU k.bO
 have HK:=f1.bU k.ow
 have Q5:IntKind.u64.bits=64:=rfl
 have s0:0<=g.size:=by omega
 have hm:IntKind.u64.wrap (IntKind.u64.wrap (IntKind.u64.wrap (1*2^(min g.size.toNat 64))-1)*2^(min g.from_.toNat 64))=gR g:=rfl
 have hv:IntKind.u64.wrap (IntKind.u64.wrap y.1.num*2^(min g.from_.toNat 64))=valOf g y.1.num:=rfl
 simp only[dQ.cT,aj,au,ov,ap,zG,zA,zB,aa,qn,s0,zH,DG,hs.2.1,Q5,hm,dQ.cP,kI,az,Ky,hv,dQ.cp,HK,xA,xx]
 unfold oe at k
 by_cases k1:kE w.value (gR g)=kE (valOf g y.1.num) w.cQ
 ·rw[zW (by simpa using k1)]at k
  have eI:(kE w.value (gR g) != kE (valOf g y.1.num) w.cQ)=false:=by simp[k1]
  have w1:∀x:Int,0<=x/\x<=1000000000->IntKind.i64.wrap x=x:=fun x hx=>aR (by omega) (by omega)
  simp only[eI,dQ.ck,al,zE,zD,zC,zH,dQ.b5,aZ,w1 ((j:Int)+1) (by omega),aj,au,kI,HK,ap,zG,az,zA,zB,aa,xP,w1 ((j:Int)+1+kk) (by omega),Fj]
  refine⟨rG ⟨true,wx w.cQ (gR g),wx w.value (valOf g y.1.num)⟩,by simp[dU,bt,dt,ns],?_⟩
  refine⟨TW TQ n0 h1,fun id hs _=>k.hW id (TW.back (TW.aU f1) hs),hB h1 _ _ (j+1) _ pl xp xo l (k.px.ba f1) (k.rt.ba f1) hj hg (fun _ h=>h) ?_ ?_⟩
  ·intro e h2 hb hp f2
   exact y4 k hb hp (TW.trans (TW.aU f1) f2)
  ·intro l2 mc oP lm h2 hb ib f2
   exact wj k hb ib (TW.trans (TW.aU f1) f2)
 ·rw[zX k1]at k
  have eI:(kE w.value (gR g) != kE (valOf g y.1.num) w.cQ)=true:=by simp[k1]
  simp only[eI,dQ.ck,al,zD,zF,zC,zI]
  exact k.hk l pl xp xo h1 rfl (k.px.ba f1) (TW.aU f1)
end
end
section
open Go.Ab
attribute [-simp] aV aE
theorem GO.inv{bk:Bk}{r:Row}{l:List Row}(h:GO bk (r::l)):(0<=r.rows/\r.rows<=l.length)/\OY bk r/\(r.kind=aT\/r.kind=eZ->GO bk (l.take r.rows.toNat))/\GO bk (l.drop r.rows.toNat):=by
 cases h with |cons h0 h1 h2 h3=>exact⟨h0,h1,h2,h3⟩
section
variable {n0 p:Nat} {xr:AV} {bk:Bk} {ids:List Nat} {qm bm gm:Nat} {rs:List (Row×AV)}
theorem W4(sc:SC bk rs)(n:Nat):Ws n0 p xr bk ids qm bm gm rs n:=by
 induction n using Nat.strongRecOn with
 |ind n ih=>
 intro h M R a w pl xp xo l px rt hn hg hM he hk
 apply dQ.aM
 unfold dQ.fC
 refine dV rfl fun vw h1 f1 UB ow=>?_
 unfold dQ.fZ dQ.gf
 have hlen:=rt.n
 refine cy (ι:=Nat×OL×Int×AV×AV) (fun i v h'=>v=[.ptr p 0,I (a+n),.ptr vw 0,I (a+(n-i.1:Nat):Int)]/\i.1<=n/\PX n0 h' p xr bk ids qm bm gm i.2.1 i.2.2.1 i.2.2.2.1 i.2.2.2.2/\GO bk (sg rs (a+(n-i.1)) i.1)/\h'.obj vw=some (aP (rG w) 3 79) /\
  iA bk (rs.map (·.1)) w (sg rs (a+(n-i.1)) i.1) i.2.1=iA bk (rs.map (·.1)) w (sg rs a n) l/\Fr h h' (TW TQ n0 h)) (fun i=>i.1) (n,l,pl,xp,xo) ⟨by simp,zU _,px.ba f1,by simpa using hg,ow,by simp,TW.aU f1⟩ ?_
 rintro K ⟨m,l1,Bs,jD,iG⟩ v h2 ⟨rfl,hm,ib,lf,PY,bq,f2⟩ step
 simp only at hm ib lf bq step
 have q0:=rt.wS f2
 have Ia:∀{h3:AH},Fr h h3 (TW TQ n0 h)->∀id,TW TQ n0 h3 id\/h3.next<=id->(M id\/h.next<=id):=fun{h3} f id hid=>hid.elim (fun hid=>(TW.back f hid).elim (fun h=>.inl (hM id h)) .inr) (fun hid=>.inr (zR f.next hid))
 unfold dQ.cG
 simp only[zN,zO,dQ.e_,bc]
 cases m with
 |zero=>
  have e1:decide ((a:Int)+(n-0:Nat)<a+n)=false:=by simp
  rw[vq,vg]at bq
  simp only[e1,dQ.fQ,al,zE,zD,zC,zH,zV,dQ.n1]
  simpa using hk l1 Bs jD iG h2 bq.symm ib f2
 |succ m=>
  obtain⟨j,hj⟩:∃j,j=a+(n-(m+1)):=⟨_,rfl⟩
  have ej:(a:Int)+(n-(m+1):Nat)=(j:Int):=by omega
  have e1:decide ((j:Int)<a+n)=true:=by simp;omega
  rw[<-hj]at bq lf
  obtain⟨y,hy⟩:∃y,rs[j]?=some y:=⟨rs[j]'(by omega),zJ _⟩
  rw[xj hy]at bq lf
  rw[vT]at bq
  obtain⟨⟨b0,b1⟩,go,gt,gd⟩:=lf.inv
  rw[qX (by omega)]at b1
  obtain⟨kk,fI⟩:∃kk:Nat,y.1.rows=kk:=⟨y.1.rows.toNat,by omega⟩
  have lQ:kk<=m:=by omega
  rw[fI,zY,jR lQ,jS]at bq
  rw[fI,zY,jR lQ]at gt
  rw[fI,zY,jS]at gd
  have w1:∀x:Int,0<=x/\x<=1000000000->IntKind.i64.wrap x=x:=fun x hx=>aR (by omega) (by omega)
  simp only[e1,ej,dQ.fQ,al,zD,zF,zC,zI,dQ.fk,aC,aj,au,ib.p,ap,zG,zA,aa]
  refine gD q0.r dT (q0.one hy) hy rfl rfl (fun id hid=>Ia f2 id (.inr hid)) fun vr h3 f3 _ ko=>?_
  have eO:=TW.trans f2 (TW.aU f3)
  have xu:=ib.ba f3
  have Fk:=f3.bU PY
  have dk:DK (fun id=>M id\/h.next<=id) (aJ Pg [.tmp 8] R) K (fun(i:Nat) (vs:List AV) (h:AH)=>if i=0 then dQ.n1 (fun id=>M id\/h.next<=id) (aJ Pg [.tmp 8] R) (aJ Pg [.tmp 8] R) (fun _ _ _=>False) (fun v h=>R (.bW v) h) h else False) (fun v h=>R (.bW v) h) h3 n0 p vw vr xr jD iG (I (a+n)) bk ids qm bm gm l1 Bs rs w y j (vD bk (rs.map (·.1)) w y.1 (sg rs (j+1) kk) l1):=by
   refine⟨sc,xu,rt.wS eO,hy,Fk,ko,Ia eO,?_,?_⟩
   ·intro e h' ho hp f'
    rw[ho]at bq
    simpa using he e h' bq.symm hp (TW.trans eO f')
   ·intro l' fP fp fq h' ho Kj f'
    rw[ho]at bq
    have iP:=TW.trans eO f'
    simp only[dQ.n2,aC,aj,au,Kj.p,ap,zG,zA,aa]
    refine dJ (k:=4) (rt.wS iP).r dT hy (by omega) rfl fun _=>?_
    rw[fI]
    simp only[aZ,w1 (1+(kk:Int)) (by omega),w1 ((j:Int)+(1+kk)) (by omega)]
    have e8:j+1+kk=a+(n-(m-kk)):=by omega
    have e9:(j:Int)+(1+kk)=a+(n-(m-kk):Nat):=by omega
    simp only[ll]at bq
    rw[e8]at bq gd
    exact step (m-kk,l',fP,fp,fq) _ h' (by simp only;omega) ⟨by rw[<-e9],by simp only;omega,Kj,gd,TW.obj f' Fk rfl,bq,iP⟩
  clear bq step
  have e4:(⟨#[114,101,112,101,97,116]⟩:ByteArray)=aT:=rfl
  have e5:(⟨#[105,102]⟩:ByteArray)=eZ:=rfl
  have e6:(⟨#[117,115,101]⟩:ByteArray)=cn:=rfl
  have e7:(⟨#[109,101,97,115,117,114,101]⟩:ByteArray)=bT:=rfl
  have e8:(⟨#[114,101,115,101,116]⟩:ByteArray)=cV:=rfl
  unfold vD at dk
  simp only[dQ.fL,dQ.fD,aj,au,ko,ap,zG,az,zA,zB,aa,dQ.fu,br,e4]
  by_cases k1:y.1.kind=aT
  ·rw[zX k1]at dk
   simp only[zL k1,dQ.fM,al,zD,zF,zC,zI]
   exact SR (ih kk (by omega)) dk (by omega) fI (gt (.inl k1))
  rw[zW k1]at dk
  simp only[zK k1,dQ.fM,al,zE,zD,zC,zH,dQ.fl,br,e5]
  by_cases k2:y.1.kind=eZ
  ·rw[zX k2]at dk
   obtain⟨g,kB,_⟩:=go.i k2
   rw[kB]at dk
   simp only[zL k2,dQ.eC,al,zD,zF,zC,zI]
   exact Wb (ih kk (by omega)) kB dk (by omega) fI (gt (.inr k2))
  rw[zW k2]at dk
  simp only[zK k2,dQ.eC,al,zE,zD,zC,zH,dQ.dZ,br,e6]
  by_cases k3:y.1.kind=cn
  ·rw[zX k3]at dk
   simp only[zL k3,dQ.dS,al,zD,zF,zC,zI]
   exact SQ dk (go.u k3).1 (go.u k3).2
  rw[zW k3]at dk
  simp only[zK k3,dQ.dS,al,zE,zD,zC,zH,dQ.dn,br,e7]
  by_cases k4:y.1.kind=bT
  ·rw[zX k4]at dk
   obtain⟨x,z,Lc,h0,h1⟩:=go.m k4
   rw[Lc]at dk
   simp only[zL k4,dQ.cU,al,zD,zF,zC,zI]
   exact Pl Lc dk h0 h1
  rw[zW k4]at dk
  simp only[zK k4,dQ.cU,al,zE,zD,zC,zH,dQ.c9,br,e8]
  by_cases k5:y.1.kind=cV
  ·rw[zX k5]at dk
   obtain⟨x,hx,h0⟩:=go.s k5
   simp only[zL k5,dQ.cB,al,zD,zF,zC,zI]
   exact Mp dk (fun c hc=>by rw[hx]at hc;have:=List.mem_singleton.1 hc;subst this;exact h0)
  rw[zW k5]at dk
  simp only[zK k5,dQ.cB,al,zE,zD,zC,zH]
  exact wj dk rfl xu (TW.aU Fr.refl)
end
end
section
open Go.Ab
attribute [-simp] aV aE
def OG(o:eY):Prop:=o.aN.length<=100000000/\Ix o
def WG(w:hN):Prop:=(0<=w.cQ/\w.cQ<18446744073709551616)/\(0<=w.value/\w.value<18446744073709551616)
theorem EB{k:Int}{n:ByteArray}{qs:List Int}{b:Int}{w:hN}(hq:qs.length<=100000000)(hw:WG w):OG (kx k n qs b w):=⟨hq,hw.1.1,hw.1.2,hw.2.1,hw.2.2⟩
def LG(l:OL):Prop:=∀x∈l,OG x.1
theorem yJ{l l':OL}{o:eY}{pl:Int}(h:j8 l o pl=.ok l')(hl:LG l)(ho:OG o):LG l':=by
 unfold j8 at h
 split at h
 ·cases h
 ·cases h
  intro x hx
  rcases List.mem_append.1 hx with hx |hx
  ·exact hl x hx
  ·have:=List.mem_singleton.1 hx
   subst this;exact ho
theorem As{I:OL->Prop}{f:OL->Except Int OL}(hf:∀l l',f l=.ok l'->I l->I l'):∀(n:Nat)(l l':OL),gv f n l=.ok l'->I l->I l'
 |0,l,l',h,hl=>by cases h;exact hl
 |n+1,l,l',h,hl=>by
  unfold gv at h
  split at h
  ·cases h
  ·rename_i l1 h1
   split at h
   ·cases h;exact hf _ _ h1 hl
   ·exact As hf n l1 l' h (hf _ _ h1 hl)
theorem GQ{f:OL->Except Int OL}{x:Except Int OL}{l':OL}(h:ll f x=.ok l'):∃l1,x=.ok l1/\f l1=.ok l':=by
 cases x with
 |error e=>cases h
 |ok l1=>exact⟨l1,rfl,h⟩
theorem ON{bk:Bk}{L:List Row}(hL:∀r∈L,r.args.length<=100000000){w:hN}(hw:WG w){pl:Int}(k:Nat):∀(n:Nat){env:List (ByteArray×Int)}{rows:List Row}{l l':OL}(_:rows.length=n)(_:∀r∈rows,r∈L)(_:aW bk L k env w pl rows l=.ok l')(_:LG l),LG l':=by
 induction k using Nat.strongRecOn with
 |ind k ihk=>
 intro n
 induction n using Nat.strongRecOn with
 |ind n ih=>
 intro env rows l l' hn hr h hl
 cases rows with
 |nil=>rw[yn]at h;cases h;exact hl
 |cons r rest=>
  rw[List.length_cons]at hn
  rw[vW]at h
  obtain⟨l1,h1,h2⟩:=GQ h
  refine ih _ (by rw[List.length_drop];omega) rfl (fun x hx=>hr x (List.mem_cons_of_mem _ (List.mem_of_mem_drop hx))) h2 ?_
  split at h1
  ·exact As (I:=LG) (fun a b pJ ha=>ih _ (by rw[yA];omega) rfl (fun x hx=>hr x (List.mem_cons_of_mem _ (List.mem_of_mem_take hx))) pJ ha) _ _ _ h1 hl
  ·unfold jq at h1
   have Qq:=hL r (hr r (List.mem_cons_self ..))
   split at h1
   ·exact yJ h1 hl (EB (by simpa using Qq) hw)
   ·split at h1
    ·cases h1;exact hl
    ·split at h1
     ·cases h1;exact hl
     ·split at h1
      ·rename_i hi
       exact ihk _ hi _ rfl (fun x hx=>List.mem_of_mem_drop (List.mem_of_mem_take hx)) h1 hl
      ·cases h1;exact hl
theorem Mb{bk:Bk}{L:List Row}(hL:∀r∈L,r.args.length<=100000000){w:hN}(hw:WG w){pl:Int}{k:Nat}{nm:ByteArray}{qs:List Int}{l l':OL}(hq:qs.length<=100000000)(h:jq bk L k nm qs w pl l=.ok l')(hl:LG l):LG l':=by
 unfold jq at h
 split at h
 ·exact yJ h hl (EB hq hw)
 ·split at h
  ·cases h;exact hl
  ·split at h
   ·cases h;exact hl
   ·split at h
    ·exact ON hL hw _ _ rfl (fun x hx=>List.mem_of_mem_drop (List.mem_of_mem_take hx)) h hl
    ·cases h;exact hl
theorem IM(x:Int):0<=IntKind.u64.wrap x/\IntKind.u64.wrap x<18446744073709551616:=by
 have e:IntKind.u64.wrap x=x%18446744073709551616:=by unfold IntKind.wrap;rfl
 rw[e];omega
theorem J0{w w':hN}{g:gK}{n:Int}(h:oe w g n=some w'):WG w':=by
 unfold oe at h
 split at h
 ·cases h
 ·cases h
  exact⟨IM _,IM _⟩
theorem LY{bk:Bk}{L:List Row}(hL:∀r∈L,r.args.length<=100000000)(n:Nat):∀{w:hN}{rows:List Row}{l l':OL}(_:WG w)(_:rows.length=n)(_:∀r∈rows,r∈L)(_:iA bk L w rows l=.ok l')(_:LG l),LG l':=by
 induction n using Nat.strongRecOn with
 |ind n ih=>
 intro w rows l l' hw hn hr h hl
 cases rows with
 |nil=>rw[vg]at h;cases h;exact hl
 |cons r rest=>
  rw[List.length_cons]at hn
  rw[vT]at h
  obtain⟨l1,h1,h2⟩:=GQ h
  have Qq:=hL r (hr r (List.mem_cons_self ..))
  refine ih _ (by rw[List.length_drop];omega) hw rfl (fun x hx=>hr x (List.mem_cons_of_mem _ (List.mem_of_mem_drop hx))) h2 ?_
  unfold vD at h1
  split at h1
  ·exact As (I:=LG) (fun a b pJ ha=>ih _ (by rw[yA];omega) hw rfl (fun x hx=>hr x (List.mem_cons_of_mem _ (List.mem_of_mem_take hx))) pJ ha) _ _ _ h1 hl
  split at h1
  ·split at h1
   ·cases h1;exact hl
   ·split at h1
    ·cases h1;exact hl
    ·rename_i w' iV
     exact ih _ (by rw[yA];omega) (J0 iV) rfl (fun x hx=>hr x (List.mem_cons_of_mem _ (List.mem_of_mem_take hx))) h1 hl
  split at h1
  ·exact Mb hL hw (by simpa using Qq) h1 hl
  split at h1
  ·split at h1
   ·exact yJ h1 hl (EB (by simp) hw)
   ·cases h1;exact hl
  split at h1
  ·exact yJ h1 hl (EB (by simpa using Qq) hw)
  cases h1;exact hl
end
section
open Go.Ab
attribute [-simp] aV aE
section
variable {h:AH} {M:Nat->Prop} {R:AE->AH->Prop} {xr:AV}
def kL:Bk:=⟨[],[],[]⟩
theorem T_(hx:cR xr=true/\cJ xr=some [xr])(hR:∀p qm bm gm h',PA h.next h' p xr kL [] qm bm gm 0->Fr h h' (fun _=>False)->R (.ret (.ptr p 0)) h'):aA Pg 22 [xr] h M R:=by
 apply Ri.aM
 unfold Ri.n2 Ri.n1
 refine AA (enc:=Sb) fun qm h1 o1 hq f1=>AA (enc:=Sb) fun bm h2 o2 hb f2=>AA (enc:=Sb) fun gm h3 o3 hg f3=>?_
 refine⟨[xr,.mp qm,.mp bm,.mp gm,aQ,I 0,I 0,aQ,I 0],by simp[dU,bt,hx.2],?_⟩
 refine dV (by show(cR xr&&_)=true;rw[hx.1];rfl) fun p h4 f4 hp o4=>?_
 have iP:=(f1.cj f2).cj (f3.cj f4)
 have n1:=f1.next
 have n2:=f2.next
 have n3:=f3.next
 have l1:=h1.lt _ _ o1
 have l2:=h2.lt _ _ o2
 have fin:=hR p qm bm gm h4 ⟨⟨by omega,hq,by omega,by omega,(fun _ h=>by cases h)⟩,o4,⟨f4.bU (f3.bU (f2.bU o1)),f4.bU (f3.bU o2),f4.bU o3,rfl,(fun k d id h=>by cases h),.nil,by omega⟩⟩ iP
 simpa using fin
end
theorem Dh:ms kL:=⟨⟨⟨by decide,by decide,(fun _ h=>by cases h),(fun _ h=>by cases h),(fun _ h=>by cases h)⟩,.nil⟩,(fun _ h=>by cases h)⟩
theorem W_:mS Pg 25=some true:=by kernel_rfl
theorem Zo:gG Pg 25=some 3:=by kernel_rfl
theorem Dl{h:AH}{R:AE->AH->Prop}{v:Nat}{q b:Int}{xo:AV}{a e:Int}(ho:h.obj v=some (aP [I q,I b,xo] 3 25))(hR:R (.ret (.dD [.agg [I q,I b,xo],I a,I e])) h):aJ Pg [.cell 2 25,.tmp 3,.tmp 4] R [.ptr v 0,I a,I e] h:=by
 unfold aJ mT
 rw[W_,Zo]
 refine dW ho rfl fun _=>?_
 simpa[mT,jQ] using hR
theorem Cw{q b:Int}:∀{l:List eY}{i:Nat}{n:Int},0<=(jb q b l i n).1
 |[],_,_=>by simp[jb]
 |o::l,i,n=>by
  unfold jb
  split
  ·simp
  ·split
   ·simp
   ·exact Cw
theorem Eg{q b:Int}{l:List eY}:0<=(il q b l).1:=by
 unfold il
 split
 ·simp
 ·split
  ·simp
  ·exact Cw
theorem sk:dU (fun i=>[(0,1),(1,1),(2,1)][i]?) ([Value.int .i64 0,.int .i64 0,.slice none 0 0].map .sc) []=some [I 0,I 0,aQ]:=rfl
section
variable {h:AH} {M:Nat->Prop} {R:AE->AH->Prop} {xr:AV} {rs:List (Row×AV)}
structure uh (h:AH) (f:JH) (xo:AV) (yl:List (eY×AV)):Prop where
 o:rK h xo yl
 e:yl.map (·.1)=f.ops
 g:∀y∈yl,OG y.1
 n:yl.length<=4096
theorem Se(rt:RT h xr rs)(hn:∀y∈rs,y.1.num<=9223372036854775807)
  (hR:∀xo yl h',uh h' (cY (rs.map (·.1))) xo yl->Fr h h' (fun _=>False)->R (.ret (.dD [.agg [I (cY (rs.map (·.1))).q,I (cY (rs.map (·.1))).b,xo],I (cY (rs.map (·.1))).at_,I (cY (rs.map (·.1))).err])) h'):aA Pg 11 [xr] h M R:=by
 apply lK.aM
 unfold lK.cP
 have hv:=AH.b_ h (aP ([Value.int .i64 0,.int .i64 0,.slice none 0 0].map AV.sc) 3 25)
 rw[aV]
 refine⟨rfl,?_⟩
 have f1:Fr h (h.alloc (aP ([Value.int .i64 0,.int .i64 0,.slice none 0 0].map AV.sc) 3 25)) (fun _=>False):=Fr.refl.alloc _
 generalize h.alloc (aP ([Value.int .i64 0,.int .i64 0,.slice none 0 0].map AV.sc) 3 25)=h1 at *
 obtain⟨v,nO⟩:∃v,v=h.next:=⟨_,rfl⟩
 rw[<-nO]at hv ⊢
 have ov:h1.obj v=some (aP [I 0,I 0,aQ] 3 25):=hv
 have oS:=rt.ba f1
 unfold lK.cp
 refine⟨fun _=>False,fun _ h=>h.elim,T_ oS.r.one fun p qm bm gm h2 pa f2=>?_⟩
 have bX:=f1.cj f2
 have q0:=rt.ba bX
 have UD:v<h1.next:=h1.lt _ _ ov
 generalize wE:h1.next=n0 at *
 have UG:v<n0:=UD
 have uL:h.next<=n0:=by have:=f1.next;omega
 have Dr:∀{T:TypeId->Bool}{a b:AH},Fr h a (fun _=>False)->Fr a b (TW T n0 a)->Fr h b fun _=>False:=fun fa fb=>fa.trans (fb.mono fun id hid=>.inr (zR uL hid.1))
 have nJ:h2.obj v=some (aP [I 0,I 0,aQ] 3 25):=f2.bU ov
 have Wv:∀id,n0<=id->(M id\/v<=id):=fun id hid=>.inr (by omega)
 simp only[lK.ck,q0.r.len.1,q0.r.len.2,zH]
 have er:(rs.length:Int)=((0:Nat):Int)+(rs.length:Int):=by simp
 have oM:sg rs 0 rs.length=rs.map (·.1):=by unfold sg;simp
 have hL:∀r∈rs.map (·.1),r.args.length<=100000000:=fun r hr=>by
  obtain⟨z,hz,rfl⟩:=List.mem_map.1 hr
  exact(rt.a z hz).2
 have fin:∀{h':AH}{xo:AV}{yl:List (eY×AV)},h'.obj v=some (aP [I (cY (rs.map (·.1))).q,I (cY (rs.map (·.1))).b,xo] 3 25)->uh h' (cY (rs.map (·.1))) xo yl->Fr h h' (fun _=>False) ->
   aJ Pg [.cell 2 25,.tmp 3,.tmp 4] R [.ptr v 0,I (cY (rs.map (·.1))).at_,I (cY (rs.map (·.1))).err] h':=fun ho ha hf=>Dl ho (hR _ _ _ ha hf)
 have zero:∀{h':AH}{a e:Int},cY (rs.map (·.1))=⟨0,0,[],a,e⟩->h'.obj v=some (aP [I 0,I 0,aQ] 3 25)->Fr h h' (fun _=>False)->aJ Pg [.cell 2 25,.tmp 3,.tmp 4] R [.ptr v 0,I a,I e] h':=fun{h' a e} he ho hf=>by
  have:=fin (h':=h') (xo:=aQ) (yl:=[])
  rw[he]at this
  exact this ho ⟨⟨.inl ⟨rfl,rfl⟩,(fun _ h=>by cases h)⟩,rfl,(fun _ h=>by cases h),by simp⟩ hf
 have pq:∀{h':AH}{x y z:AV},h'.obj v=some (aP [I 0,I 0,aQ] 3 25)->(h'.put v 0 [x,y,z]).obj v=some (aP [x,y,z] 3 25):=fun ho=>by rw[dz ho];rfl
 have pN:∀{h':AH}{cs:List AV},Fr h h' (fun _=>False)->Fr h (h'.put v 0 cs) fun _=>False:=fun hf=>hf.put (.inr (by omega))
 rw[er]
 refine⟨TW TP n0 h2,fun id hs _=>Wv id hs.1,R2 rs.length (a:=0) (deep:=0) (own:=none) (bk:=kL) (ids:=[]) pa q0 Dh.i rfl (by omega) (by omega) (fun _ h=>h) ?_ ?_⟩
 ·intro pl e h3 hl hp f3
  rw[oM]at hl
  obtain⟨cs,hp,c8⟩:=hp
  have eO:=Dr bX f3
  have lO:h3.obj v=some (aP [I 0,I 0,aQ] 3 25):=TW.obj f3 nJ rfl
  have h0:(e != 0)=true:=by simpa using DN _ rfl hl
  have Le:v≠p:=fun e=>by have:=pa.n.1;omega
  have jf:cY (rs.map (·.1))=⟨0,0,[],pl,e⟩:=by
   unfold cY
   rw[show(⟨[],[],[]⟩:Bk)=kL from rfl,hl]
  simp only[lK.b5,cq,h0,lK.bR,al,zD,zF,zC,zI,lK.bV]
  refine⟨fun _=>p,fun _ _=>by rw[hp];simp,⟨_,sk,?_⟩⟩
  simp only[aC,aj,au,hp,ap,zG,c8,aa,zH,aE,lO,eL,bz]
  refine⟨⟨⟨.inr (by omega),fun _ _=>Le⟩,rfl,rfl,by simp⟩,?_⟩
  simp only[lK.bP]
  exact zero jf (pq lO) (pN eO)
 ·intro bk idl pl h3 hl Bu f3
  rw[oM]at hl
  have tO:=hl
  have eO:=Dr bX f3
  have lO:h3.obj v=some (aP [I 0,I 0,aQ] 3 25):=TW.obj f3 nJ rfl
  have wm:=rt.ba eO
  obtain⟨bf,_,_,Jl⟩:=vJ hL rs.length (deep:=0) (own:=none) (i:=0) (bk:=kL) (bN:=bk) (by simp) Dh (fun k h=>by cases h) (by rw[<-po,oM];exact hl)
  obtain⟨nj,_,Lr⟩:=Jl bk kF.refl bf
  have nj:=nj rfl
  rw[<-po]at nj
  have sc:SC bk rs:=⟨bf,fun k d hd=>Lr k (Nat.zero_le _) (zM.1 hd).1 d hd,hn⟩
  have xu:PX n0 h3 p xr bk ([]++idl) qm bm gm [] pl aQ aQ:=⟨⟨Bu.n.1,(fun _ _ _ e=>by cases e),(fun _ _ _ e=>by cases e)⟩,Bu.p,Bu.m,.nil,⟨[],.nil,rfl,(fun _ h=>by cases h)⟩,by simp⟩
  have x_:((0:Int) != 0)=false:=rfl
  simp only[lK.b5,cq,x_,lK.bR,al,zE,zD,zC,zH,lK.bH,wm.r.len.1,wm.r.len.2]
  refine⟨[B false,U 0,U 0],rfl,?_⟩
  rw[er]
  refine⟨TW TQ n0 h3,fun id hs _=>Wv id hs.1,W4 sc rs.length h3 _ _ 0 ⟨false,0,0⟩ pl aQ aQ [] xu wm (by simp) nj (fun _ h=>h) ?_ ?_⟩
  ·intro e h4 hd hp f4
   rw[oM]at hd
   obtain⟨_,_,_,uJ⟩:=hp
   have iP:=Dr eO f4
   have za:h4.obj v=some (aP [I 0,I 0,aQ] 3 25):=TW.obj f4 lO rfl
   have Le:v≠p:=fun e=>by have:=pa.n.1;omega
   have jf:cY (rs.map (·.1))=⟨0,0,[],e,115⟩:=by
    unfold cY
    rw[show(⟨[],[],[]⟩:Bk)=kL from rfl,hl]
    simp only[hd]
   simp only[dA,zT,lK.a_,al,zD,zF,zC,zI,lK.bj]
   refine⟨fun _=>p,fun _ _=>by rw[uJ.p];simp,⟨_,sk,?_⟩⟩
   simp only[aC,aj,au,uJ.p,ap,zG,zA,zB,aa,zH,aE,za,eL,bz]
   refine⟨⟨⟨.inr (by omega),fun _ _=>Le⟩,rfl,rfl,by simp⟩,?_⟩
   simp only[lK.aS]
   exact zero jf (pq za) (pN iP)
  ·intro l fP xp xo h4 hd uJ f4
   rw[oM]at hd
   have iP:=Dr eO f4
   have za:h4.obj v=some (aP [I 0,I 0,aQ] 3 25):=TW.obj f4 lO rfl
   have lg:LG l:=LY hL _ ⟨⟨by decide,by decide⟩,⟨by decide,by decide⟩⟩ rfl (fun _ h=>h) hd (fun _ h=>by cases h)
   obtain⟨yl,o1,o2,o3⟩:=uJ.o
   have C_:rK h4 xo yl:=⟨o1.dr,fun y hy=>(o3 y hy).1⟩
   have DY:∀y∈yl,OG y.1:=fun y hy=>by
    have:y.1∈l.map (·.1):=by rw[<-o2];exact List.mem_map_of_mem hy
    obtain⟨x,hx,e⟩:=List.mem_map.1 this
    rw[<-e];exact lg x hx
   have zh:yl.length<=4096:=by
    have:=congrArg List.length o2
    have:=uJ.len
    simp only[zZ]at *;omega
   simp only[dA,zS,lK.a_,al,zE,zD,zC,zH,lK.n9,aC,aj,kU,uJ.p,jX,zG,List.drop_succ_cons,List.drop_zero,List.take_succ_cons,List.take_zero]
   refine⟨by simp,?_⟩
   refine⟨fun _=>False,fun _ h=>h.elim,OI C_ (fun y hy=>zR (DY y hy).1 (by decide)) fun h5 f5=>?_⟩
   rw[o2]
   have qg:=iP.cj f5
   have tC:=uJ.ba f5
   have Bw:=f5.bU za
   have Ji:=C_.ba f5
   have jf:cY (rs.map (·.1))=if (il (aK bk.qs) (aK bk.bs) (l.map (·.1))).2≠0 then⟨0,0,[],(match l[(il (aK bk.qs) (aK bk.bs) (l.map (·.1))).1.toNat]? with |some x=>x.2 |none=>0),(il (aK bk.qs) (aK bk.bs) (l.map (·.1))).2⟩ else⟨aK bk.qs,aK bk.bs,l.map (·.1),0,0⟩:=by
    conv=>lhs;unfold cY
    rw[show(⟨[],[],[]⟩:Bk)=kL from rfl,hl]
    simp only[hd]
    all_goals rfl
   have UQ:=Eg (q:=aK bk.qs) (b:=aK bk.bs) (l:=l.map (·.1))
   generalize il (aK bk.qs) (aK bk.bs) (l.map (·.1))=c at *
   obtain⟨c1,c2⟩:=c
   simp only at jf UQ
   simp only[CT,dE,zA,zB,aa,lK.n8,cq]
   by_cases k1:c2=0
   ·rw[zW (by simpa using k1)]at jf
    have eI:(c2 != 0)=false:=by simp[k1]
    simp only[eI,lK.n7,al,zE,zD,zC,zH,lK.n1,aC,aj,kU,tC.p,jX,zG,List.drop_succ_cons,List.drop_zero,List.take_succ_cons,List.take_zero]
    refine⟨by simp,?_⟩
    simp only[aE,Bw,eL,bz]
    have hx:=Ji.gC.one.1
    refine⟨⟨.inr (by omega),by show(true&&(true&&(cR xo&&true)))=true;rw[hx];rfl,rfl,by simp⟩,?_⟩
    have:=fin (h':=h5.put v 0 [I (aK bk.qs),I (aK bk.bs),xo]) (xo:=xo) (yl:=yl)
    rw[jf]at this
    have fv:Fr h5 (h5.put v 0 [I (aK bk.qs),I (aK bk.bs),xo]) (·=v):=Fr.refl.put (.inl rfl)
    refine this (pq Bw) ⟨⟨Ji.gC.fr fv fun id o ho ht e=>?_,fun y hy=>(Ji.qs y hy).fr fv fun id o ho ht e=>?_⟩,o2,DY,zh⟩ (pN qg)
    ·subst e;rw[Bw]at ho;cases ho;exact absurd (ht rfl) (show(25:Nat)≠36 by decide)
    ·subst e;rw[Bw]at ho;cases ho;exact absurd (ht rfl) (show(25:Nat)≠3 by decide)
   ·rw[zX k1]at jf
    have eI:(c2 != 0)=true:=by simpa using k1
    simp only[eI,lK.n7,al,zD,zF,zC,zI,lK.n6,aC,aj,au,tC.p,ap,zG,zA,zB,aa,tC.x.dr.len.1,tC.x.dr.len.2,zH,zZ,bc]
    by_cases k2:c1<l.length
    ·obtain⟨x,hx⟩:∃x,l[c1.toNat]?=some x:=⟨l[c1.toNat]'(by omega),zJ _⟩
     rw[hx]at jf
     simp only[zL k2,lK.n5,al,zD,zF,zC,zI,lK.n4]
     rcases tC.x with⟨_,e0⟩ |⟨ix,rfl,FQ⟩
     ·have:l=[]:=by simpa using e0
      subst this
      simp at k2;omega
     ·have Le:v≠p:=fun e=>by have:=pa.n.1;omega
      have UA:v≠ix:=bM Bw FQ (show(25:Nat)≠3 by decide)
      have B4:((l.map (·.2)).flatMap cX)[c1.toNat]?=some (I x.2):=by
       have:=ep (f:=cX) (k:=1) gJ (l.map (·.2)) c1.toNat 0 (by omega)
       rw[Nat.mul_one,Nat.add_zero,List.getElem?_map,hx]at this
       exact this
      refine⟨fun i=>if i=4 then p else ix,fun i _=>by show h5.obj (if i=4 then p else ix)≠none;split<;>simp[tC.p,FQ],⟨_,sk,?_⟩⟩
      simp only[aC,aj,au,tC.p,ap,zG,zA,zB,aa,zV,zH,kN,FQ,Nat.mul_one,B4,zZ]
      refine⟨⟨by omega,by omega⟩,by simp,?_⟩
      simp only[aE,Bw,eL,bz]
      refine⟨⟨⟨.inr (by omega),fun i _=>by show v≠(if i=4 then p else ix);split;exact Le;exact UA⟩,rfl,rfl,by simp⟩,?_⟩
      simp only[lK.n3]
      exact zero jf (pq Bw) (pN qg)
    ·have hx:l[c1.toNat]?=none:=List.getElem?_eq_none (by omega)
     rw[hx]at jf
     simp only[zK k2,lK.n5,al,zE,zD,zC,zH,lK.n2]
     refine⟨_,sk,?_⟩
     simp only[aE,Bw,eL,bz]
     refine⟨⟨.inr (by omega),rfl,rfl,by simp⟩,?_⟩
     exact zero jf (pq Bw) (pN qg)
end
end
end Go.Proofs.YtjehibknlmehmaaGreat
