/- What is looked at is good; flat writes out what the plain form says; some examples. No condition. -/
import Derived.Test.YtjehibknlmehmaaGreatDoorFa
import Derived.Test.YtjehibknlmehmaaGreatDoorGr
set_option maxRecDepth 100000
namespace Go.Proofs.YtjehibknlmehmaaGreatDoor
section
open Go.Ab
structure jY (a b:Bk):Prop where
 q:∃l,b.qs=a.qs++l
 bb:∃l,b.bs=a.bs++l
 d:gA a b
theorem jY.refl{a:Bk}:jY a a:=⟨⟨[],by simp⟩,⟨[],by simp⟩,gA.refl⟩
theorem jY.trans{a b c:Bk}(h1:jY a b)(h2:jY b c):jY a c:=by
 obtain⟨⟨q1,e1⟩,⟨b1,e2⟩,d1⟩:=h1
 obtain⟨⟨q2,e3⟩,⟨b2,e4⟩,d2⟩:=h2
 exact⟨⟨q1++q2,by rw[e3,e1,List.append_assoc]⟩,⟨b1++b2,by rw[e4,e2,List.append_assoc]⟩,d1.trans d2⟩
structure pd (bk:Bk):Prop where
 i:mD bk
 a:∀d∈bk.ds,b6 d.name=0/\FI d.params=false
theorem Cz{l m:List js}{n:ByteArray}{g:js}(h:fA l n=some g):fA (l++m) n=some g:=by
 unfold fA at h ⊢
 rw[List.find?_append,h];rfl
theorem xT{l m:List js}{a:Arg}(h:jT l a=0):jT (l++m) a=0:=by
 unfold jT at h ⊢
 cases hr:fA l a.name with
 |none=>rw[hr]at h;cases h
 |some g=>rw[hr]at h;rw[Cz hr];exact h
theorem pd.modify{bk:Bk}(a:pd bk){k:Nat}{f:dO->dO}(hf:∀d,core (f d)=core d)(hd:∀d∈bk.ds,0<=(f d).depth/\(f d).depth<=100/\0<=(f d).ops/\(f d).ops<=4097):pd { bk with ds:=bk.ds.modify k f }/\jY bk { bk with ds:=bk.ds.modify k f }:=by
 obtain⟨h1,h2⟩:=a.i.modify (k:=k) hf hd
 refine⟨⟨h1,fun d h=>?_⟩,⟨[],by simp⟩,⟨[],by simp⟩,h2⟩
 rcases mem_modify h with h3 |⟨e,h3,rfl⟩
 ·exact a.a d h3
 ·rw[show(f e).name=e.name from congrArg (·.1) (hf e),show(f e).params=e.params from congrArg (·.2.1) (hf e)]
  exact a.a e h3
theorem FJ{bk:Bk}{n:ByteArray}{d:dO}(h:hH bk.ds n=some d):∃k:Nat,bk.ds[k]?=some d/\d.name=n:=by
 have h1:=List.mem_of_find?_eq_some h
 have h2:=List.find?_some h
 obtain⟨k,hk⟩:=List.mem_iff_getElem?.1 h1
 exact⟨k,hk,by simpa using h2⟩
def zw(bk:Bk)(k:Nat)(r:Row):Prop:=(hH bk.ds r.name=none/\0<b6 r.name/\(r.args.length:Int)=b6 r.name)\/∃j d,j<k/\bk.ds[j]?=some d/\d.name=r.name/\r.args.length=d.params.length/\b6 r.name=0
inductive GB (bk:Bk) (k:Nat) (ps:List ByteArray):List Row->Prop
 |nil:GB bk k ps []
 |Xt {r:Row} {l:List Row} (h0:r.kind=bP) (h1:r.rows=0) (h2:zw bk k r) (h3:∀a∈r.args,gB a.name ps=true) (h4:GB bk k ps l):GB bk k ps (r::l)
 |Xy {r:Row} {l:List Row} (h0:r.kind=aK) (h1:0<=r.rows/\r.rows<=l.length) (h2:GB bk k ps (l.take r.rows.toNat)) (h3:GB bk k ps (l.drop r.rows.toNat)):GB bk k ps (r::l)
structure NZ (bk:Bk) (r:Row):Prop where
 u:r.kind=bP->zw bk bk.ds.length r/\∀a∈r.args,jT bk.qs a=0
 i:r.kind=c9->∃g,fA bk.bs r.name=some g/\0<=r.num/\(g.size<63->r.num<2^g.size.toNat)
 m:r.kind=be->∃a b,r.args=[a,b]/\jT bk.qs a=0/\jT bk.bs b=0
 s:r.kind=ch->∃a,r.args=[a]/\jT bk.qs a=0
inductive GO (bk:Bk):List Row->Prop
 |nil:GO bk []
 |cons {r:Row} {l:List Row} (h0:0<=r.rows/\r.rows<=l.length) (h1:NZ bk r) (h2:r.kind=aK\/r.kind=c9->GO bk (l.take r.rows.toNat)) (h3:GO bk (l.drop r.rows.toNat)):GO bk (r::l)
def Jv(bk:Bk)(L:List Row)(k:Nat):Prop:=∀d,bk.ds[k]?=some d->∃a n:Nat,d.from_=a/\d.JF=a+n/\a+n<=L.length/\GB bk k d.params ((L.drop a).take n)
theorem yF{f:Arg->Int}:∀{l:List Arg},hF f l=0->∀a∈l,f a=0
 |[],_,a,h=>by cases h
 |b::l,h,a,ha=>by
  unfold hF at h
  split at h
  ·rename_i hb;exact absurd h hb
  ·rename_i hb
   rcases List.mem_cons.1 ha with rfl |ha
   ·exact Classical.not_not.1 hb
   ·exact yF h a ha
theorem jY.Vf{a b:Bk}(m:jY a b){k:Nat}{d:dO}(h:a.ds[k]?=some d):∃d',b.ds[k]?=some d'/\core d'=core d:=m.d.at_ h
def Tm(bf:Bk)(own:Option Nat):Nat:=own.getD bf.ds.length
theorem Ct{bk cE bf:Bk}{own:Option Nat}{r:Row}(a:pd bk)(ho:∀k,own=some k->k+1=bk.ds.length)(h:mY bk own r=.ok cE)(hm:jY bk bf)(hf:pd bf) :
  zw bf (Tm bf own) r/\(own=none->∀x∈r.args,jT bf.qs x=0)/\∀k,own=some k->∀d,bf.ds[k]?=some d->∀x∈r.args,gB x.name d.params=true:=by
 unfold mY at h
 split at h
 ·cases h
 rename_i h1
 split at h
 ·cases h
 rename_i h2
 split at h
 ·cases h
 rename_i h3
 split at h
 ·cases h
 rename_i h4
 have h4:=yF (Classical.not_not.1 h4)
 have h3:=Classical.not_not.1 h3
 refine⟨?_,?_,?_⟩
 ·unfold nz at h2 h3
  cases hd:hH bk.ds r.name with
  |none=>
   rw[hd]at h2 h3
   simp only at h2 h3
   have hr:=(DC r.name).1
   refine .inl ⟨?_,by omega,h3⟩
   cases E_:hH bf.ds r.name with
   |none=>rfl
   |some d'=>
    obtain⟨k,g1,g2⟩:=FJ E_
    have:=(hf.a d' (zP g1)).1
    rw[g2]at this;exact absurd this h2
  |some d=>
   rw[hd]at h2 h3
   simp only at h2 h3
   obtain⟨j,g1,g2⟩:=FJ hd
   have g3:=(a.a d (zP g1)).1
   rw[g2]at g3
   obtain⟨d',g4,g5⟩:=hm.Vf g1
   have n':d'.name=d.name:=congrArg (·.1) g5
   have p':d'.params=d.params:=congrArg (·.2.1) g5
   refine .inr ⟨j,d',?_,g4,n'.trans g2,?_,g3⟩
   ·cases own with
    |none=>exact(zM.1 g4).1
    |some k=>
     have hk:=ho k rfl
     have hj:=(zM.1 g1).1
     have:j≠k:=fun e=>by
      subst e
      apply h1
      unfold qY kz
      simp only[Option.bind_some,g1,g2,decide_true]
     unfold Tm;simp only[Option.getD_some];omega
   ·rw[p']
    cases hw:d.whole with
    |true=>rw[hw]at h3;simp only[zV]at h3;omega
    |false=>rw[hw]at h2;simp only[zE,if_false]at h2;exact absurd g3 h2
 ·rintro rfl x hx
  obtain⟨l,e⟩:=hm.q
  rw[e]
  exact xT (h4 x hx)
 ·rintro k rfl d hd x hx
  have hk:=ho k rfl
  have aM:k<bk.ds.length:=by omega
  obtain⟨d',g4,g5⟩:=hm.Vf (zJ aM)
  rw[hd]at g4;cases g4
  have p':d.params=bk.ds[k].params:=congrArg (·.2.1) g5
  have:=h4 x hx
  unfold io kz at this
  simp only[Option.bind_some,zJ aM]at this
  rw[p']
  split at this
  ·cases this
  ·split at this
   ·assumption
   ·cases this
theorem Bv{bk:Bk}{l l':List js}{r:Row}(hd:ij bk l 64 r=.ok l'):∃m,l'=l++m:=by
 unfold ij at hd
 split at hd
 ·cases hd
 split at hd
 ·cases hd
 split at hd
 ·cases hd
 cases hd
 exact⟨_,rfl⟩
theorem JU{bk cE:Bk}{own:Option Nat}{i:Int}{r:Row}(a:pd bk)(hl:r.args.length<=100000000)(h:lA bk own i r=.ok cE):jY bk cE/\pd cE:=by
 obtain⟨b1,x1,_,_,_⟩:=xz a.i hl h
 have same:∀e,qB e bk=.ok cE->cE=bk:=fun e h=>by
  unfold qB at h
  split at h<;>cases h
  rfl
 have fin:cE=bk->jY bk cE/\pd cE:=fun e=>by subst e;exact⟨jY.refl,a⟩
 unfold lA at h
 split at h
 ·cases hd:ij bk bk.qs 64 r with
  |error e=>rw[hd]at h;cases h
  |ok l=>rw[hd]at h;cases h;exact⟨⟨Bv hd,⟨[],by simp⟩,x1⟩,⟨b1,a.a⟩⟩
 split at h
 ·cases hd:ij bk bk.bs 64 r with
  |error e=>rw[hd]at h;cases h
  |ok l=>rw[hd]at h;cases h;exact⟨⟨⟨[],by simp⟩,Bv hd,x1⟩,⟨b1,a.a⟩⟩
 split at h
 ·have hd:=h
  unfold uJ at h
  split at h
  ·cases h
  split at h
  ·cases h
  split at h
  ·cases h
  split at h
  ·cases h
  rename_i oZ
  obtain⟨_,_,e,ht⟩:=HF a.i hl hd
  subst e
  refine⟨⟨⟨[],by simp⟩,⟨[],by simp⟩,x1⟩,⟨b1,fun d hd=>?_⟩⟩
  rcases List.mem_append.1 hd with hd |hd
  ·exact a.a d hd
  ·have:=List.mem_singleton.1 hd
   subst this
   have h1:=(Cu ht).2.2.2
   have h2:=(DC r.name).1
   exact⟨by simp only;omega,by simpa using oZ⟩
 split at h
 ·split at h
  ·cases h
  ·cases h;exact fin rfl
 split at h
 ·unfold EO at h
  split at h
  ·cases h
  ·split at h
   ·cases h
   ·cases h;exact fin rfl
 split at h
 ·unfold mY at h
  split at h
  ·cases h
  split at h
  ·cases h
  split at h
  ·cases h
  split at h
  ·cases h
  split at h
  ·cases h
  split at h
  ·cases h
  cases h
  unfold r9 at b1 x1 ⊢
  cases own with
  |none=>exact fin rfl
  |some k=>
   refine⟨⟨⟨[],by simp⟩,⟨[],by simp⟩,x1⟩,⟨b1,fun d hd=>?_⟩⟩
   rcases mem_modify hd with h3 |⟨e,h3,rfl⟩
   ·exact a.a d h3
   ·exact a.a e h3
 split at h
 ·unfold pI at h
  split at h
  ·split at h
   ·cases h
   ·exact fin (same _ h)
  ·cases h
 split at h
 ·unfold tG at h
  split at h
  ·exact fin (same _ h)
  ·cases h
 cases h
 exact fin rfl
theorem Hz{e:Int}{bk cE:Bk}(h:qB e bk=.ok cE):e=0:=by
 unfold qB at h
 split at h
 ·cases h
 ·rename_i h0;exact Classical.not_not.1 h0
theorem JV{bk cE bf:Bk}{i:Int}{r:Row}(a:pd bk)(h:lA bk none i r=.ok cE)(hm:jY bk bf)(hf:pd bf):NZ bf r:=by
 have n1:bP≠aX:=by decide
 have n2:bP≠bK:=by decide
 have n3:bP≠aY:=by decide
 have n4:bP≠aK:=by decide
 have n5:bP≠c9:=by decide
 have i1:c9≠aX:=by decide
 have i2:c9≠bK:=by decide
 have i3:c9≠aY:=by decide
 have i4:c9≠aK:=by decide
 have m1:be≠aX:=by decide
 have m2:be≠bK:=by decide
 have m3:be≠aY:=by decide
 have m4:be≠aK:=by decide
 have m5:be≠c9:=by decide
 have m6:be≠bP:=by decide
 have r1:ch≠aX:=by decide
 have r2:ch≠bK:=by decide
 have r3:ch≠aY:=by decide
 have r4:ch≠aK:=by decide
 have r5:ch≠c9:=by decide
 have r6:ch≠bP:=by decide
 have r7:ch≠be:=by decide
 unfold lA at h
 refine⟨fun k=>?_,fun k=>?_,fun k=>?_,fun k=>?_⟩
 ·rw[k,zW n1,zW n2,zW n3,zW n4,zW n5,zX rfl]at h
  obtain⟨h1,h2,_⟩:=Ct a (fun k e=>by cases e) h hm hf
  exact⟨h1,h2 rfl⟩
 ·rw[k,zW i1,zW i2,zW i3,zW i4,zX rfl]at h
  unfold EO at h
  split at h
  ·cases h
  ·rename_i g hg
   split at h
   ·cases h
   ·rename_i hn
    obtain⟨l,e⟩:=hm.bb
    exact⟨g,by rw[e];exact Cz hg,by omega,fun hs=>by
     have:¬(g.size<63/\2^g.size.toNat<=r.num):=fun h=>hn (.inr h)
     have h2:¬2^g.size.toNat<=r.num:=fun h=>this ⟨hs,h⟩
     exact Int.not_le.1 h2⟩
 ·rw[k,zW m1,zW m2,zW m3,zW m4,zW m5,zW m6,zX rfl]at h
  unfold pI at h
  split at h
  ·rename_i x y hxy
   split at h
   ·cases h
   ·rename_i h0
    obtain⟨l,e⟩:=hm.bb
    obtain⟨l',e'⟩:=hm.q
    exact⟨x,y,hxy,by rw[e'];exact xT (Classical.not_not.1 h0),by rw[e];exact xT (Hz h)⟩
  ·cases h
 ·rw[k,zW r1,zW r2,zW r3,zW r4,zW r5,zW r6,zW r7,zX rfl]at h
  unfold tG at h
  split at h
  ·rename_i x hx
   obtain⟨l',e'⟩:=hm.q
   exact⟨x,hx,by rw[e'];exact xT (Hz h)⟩
  ·cases h
theorem MA{bk cE:Bk}{own:Option Nat}{i:Int}{r:Row}(k:r.kind=bP)(h:lA bk own i r=.ok cE):mY bk own r=.ok cE:=by
 have n1:bP≠aX:=by decide
 have n2:bP≠bK:=by decide
 have n3:bP≠aY:=by decide
 have n4:bP≠aK:=by decide
 have n5:bP≠c9:=by decide
 unfold lA at h
 rwa [k,zW n1,zW n2,zW n3,zW n4,zW n5,zX rfl]at h
def lZ(L:List Row)(a n:Nat):List Row:=(L.drop a).take n
theorem O2{L:List Row}{a n:Nat}{r:Row}(h:L[a]?=some r):lZ L a (n+1)=r::lZ L (a+1) n:=by
 obtain⟨h1,h2⟩:=zM.1 h
 unfold lZ
 rw[List.drop_eq_getElem_cons h1,h2,List.take_succ_cons]
theorem um{L:List Row}{a n k:Nat}(h:k<=n):(lZ L a n).take k=lZ L a k:=by
 unfold lZ
 rw[List.take_take,Nat.min_eq_left h]
theorem yV{L:List Row}{a n k:Nat}:(lZ L a n).drop k=lZ L (a+k) (n-k):=by
 unfold lZ
 rw[List.drop_take,List.drop_drop]
theorem BO{L:List Row}{a n:Nat}(h:a+n<=L.length):(lZ L a n).length=n:=by
 unfold lZ
 rw[yA,List.length_drop];omega
theorem At{rs:List (Row×AV)}{a n:Nat}:sg rs a n=lZ (rs.map (·.1)) a n:=by
 unfold sg lZ
 rw[List.map_take,List.map_drop]
theorem Iu{L:List Row}(hL:∀r∈L,r.args.length<=100000000)(n:Nat):∀{deep:Nat}{own:Option Nat}{i:Nat}{bk cE:Bk}(_:i+n<=L.length)(_:pd bk)(_:∀k,own=some k->k+1=bk.ds.length/\0<deep)(_:fB deep own i (lZ L i n) bk=.ok cE),
  pd cE/\jY bk cE/\(0<deep->cE.ds.length=bk.ds.length)/\∀bf,jY cE bf->pd bf->(own=none->GO bf (lZ L i n))/\(∀k d,own=some k->bf.ds[k]?=some d->GB bf k d.params (lZ L i n))/\∀k,bk.ds.length<=k->k<cE.ds.length->Jv bf L k:=by
 induction n using Nat.strongRecOn with
 |ind n ih=>
 intro deep own i bk cE hn a ho h
 cases n with
 |zero=>
  have e0:lZ L i 0=[]:=rfl
  rw[e0,nR]at h
  cases h
  exact⟨a,jY.refl,fun _=>rfl,fun bf _ _=>⟨fun _=>.nil,fun _ _ _ _=>.nil,fun k h1 h2=>by omega⟩⟩
 |succ m=>
  obtain⟨r,hr⟩:∃r,L[i]?=some r:=⟨L[i]'(by omega),zJ _⟩
  rw[O2 hr,oD,BO (by omega)]at h
  rw[O2 hr]
  split at h
  ·cases h
  rename_i hf
  obtain⟨f0,f00,f1,f2,_,f3,f4⟩:=Ce (Classical.not_not.1 hf)
  split at h
  ·cases h
  rename_i qO h1
  split at h
  ·cases h
  rename_i iK h2
  have E6:=hL r (zP hr)
  obtain⟨b1,x1,g1,g2,g3⟩:=xz a.i E6 h1
  obtain⟨m1,a1⟩:=JU a E6 h1
  obtain⟨k,hk⟩:∃k:Nat,r.rows=k:=⟨r.rows.toNat,by omega⟩
  have rT:k<=m:=by omega
  rw[hk,zY,um rT,yV]at h
  rw[hk,zY,um rT]at h2
  have fe:∀j,(if r.kind=aY then some bk.ds.length else own)=some j->j+1=qO.ds.length/\0<deep+1:=fun j hj=>by
   by_cases kg:r.kind=aY
   ·rw[zX kg]at hj
    cases hj
    rw[g3 kg]
    exact⟨by simp,by omega⟩
   ·rw[zW kg]at hj
    exact⟨by rw[g2 kg];exact(ho j hj).1,by omega⟩
  obtain⟨a2,m2,l2,q2⟩:=ih k (by omega) (by omega) a1 fe h2
  have l2:=l2 (by omega)
  have key:∀nV,pd nV->jY iK nV->nV.ds.length=iK.ds.length->fB deep own (i+1+k) (lZ L (i+1+k) (m-k)) nV=.ok cE->pd cE/\jY bk cE/\(0<deep->cE.ds.length=bk.ds.length)/\∀bf,jY cE bf->pd bf->(own=none->GO bf (r::lZ L (i+1) m))/\(∀k d,own=some k->bf.ds[k]?=some d->GB bf k d.params (r::lZ L (i+1) m))/\∀k,bk.ds.length<=k->k<cE.ds.length->Jv bf L k:=fun nV a3 m3 l3 h3=>by
   have Uo:∀j,own=some j->j+1=nV.ds.length/\0<deep:=fun j hj=>by
    obtain⟨z1,z2⟩:=ho j hj
    have kg:r.kind≠aY:=fun e=>by
     have:=f3 (by omega)
     unfold uK at this
     rw[e]at this
     simp at this
    exact⟨by rw[l3,l2,g2 kg];exact z1,z2⟩
   obtain⟨a4,m4,l4,q4⟩:=ih (m-k) (by omega) (by omega) a3 Uo h3
   refine⟨a4,m1.trans (m2.trans (m3.trans m4)),fun hd=>?_,fun bf mf af=>?_⟩
   ·have kg:r.kind≠aY:=fun e=>by
     have:=f3 (by omega)
     unfold uK at this
     rw[e]at this
     simp at this
    rw[l4 hd,l3,l2,g2 kg]
   ·obtain⟨u1,u2,u3⟩:=q2 bf (m3.trans (m4.trans mf)) af
    obtain⟨v1,v2,v3⟩:=q4 bf mf af
    refine⟨fun iF=>?_,fun j d iF hd=>?_,fun j Ym K4=>?_⟩
    ·subst iF
     refine .cons ⟨f1,by rw[BO (by omega)];omega⟩ (JV a h1 (m1.trans (m2.trans (m3.trans (m4.trans mf)))) af) (fun sL=>?_) ?_
     ·have kg:r.kind≠aY:=fun e=>by
       rw[e]at sL
       exact sL.elim (by decide) (by decide)
      rw[hk,zY,um rT]
      exact u1 (zW kg)
     ·rw[hk,zY,yV]
      exact v1 rfl
    ·have sL:=f4 (by rw[iF];rfl)
     have kg:r.kind≠aY:=fun e=>by
      rw[e]at sL
      exact sL.elim (by decide) (by decide)
     have w:=v2 j d iF hd
     rcases sL with ku |kr
     ·have hb:pL r.kind=false:=by rw[ku];decide
      have hz:r.rows=0:=f00.elim (fun h=>by rw[hb]at h;cases h) id
      have E8:k=0:=by omega
      subst E8
      obtain⟨z1,_,z3⟩:=Ct a (fun k e=>(ho k e).1) (MA ku h1) (m1.trans (m2.trans (m3.trans (m4.trans mf)))) af
      have z1:zw bf j r:=by rw[iF]at z1;exact z1
      exact .Xt ku hz z1 (z3 j iF d hd) w
     ·refine .Xy kr ⟨f1,by rw[BO (by omega)];omega⟩ ?_ ?_
      ·rw[hk,zY,um rT]
       exact u2 j d (by rw[zW kg];exact iF) hd
      ·rw[hk,zY,yV]
       exact w
    ·by_cases K3:nV.ds.length<=j
     ·exact v3 j K3 K4
     ·by_cases kg:r.kind=aY
      ·have e1:=g3 kg
       have abD:qO.ds.length=bk.ds.length+1:=by rw[e1];simp
       have hj4:j=bk.ds.length:=by omega
       subst hj4
       intro d hd
       have Dc:qO.ds[bk.ds.length]?=some ⟨r.name,r.args.map (·.name),i+1,i+1+r.rows,1,0,false⟩:=by rw[e1];simp
       obtain⟨d',g4,g5⟩:=(m2.trans (m3.trans (m4.trans mf))).Vf Dc
       rw[hd]at g4;cases g4
       refine⟨i+1,k,?_,?_,by omega,u2 _ d (zX kg) hd⟩
       ·have:=congrArg (·.2.2.1) g5
        simp only[core]at this
        omega
       ·have:=congrArg (·.2.2.2) g5
        simp only[core]at this
        omega
      ·have:=g2 kg
       omega
  by_cases kg:r.kind=aY
  ·rw[zX kg]at h
   have hs:qP (lZ L (i+1) k):=(zh _ rfl (fun r' wx=>hL r' (List.mem_of_mem_drop (List.mem_of_mem_take wx))) a1.i h2).2.2
   have hb:=wW (ds:=iK.ds) (fun d hd=>(a2.i.ok.ds d hd).2.2.2) hs 0 (by omega)
   obtain⟨a3,m3⟩:=a2.modify (k:=bk.ds.length) (f:=fun d=>{ d with whole:=true,ops:=countP iK.ds (lZ L (i+1) k) 0 }) (fun _=>rfl) (fun d hd=>by have:=a2.i.ok.ds d hd;simp only;omega)
   exact key _ a3 m3 (by simp) h
  ·rw[zW kg]at h
   exact key _ a2 jY.refl rfl h
end
section
open Go.Ab
structure jU where
 is:Bool
 cT:Int
 value:Int
abbrev OL:=List (bI×Int)
def mi(k:Int)(n:ByteArray)(qs:List Int)(b:Int)(w:jU):bI:=⟨k,n,qs,b,w.is,w.cT,w.value⟩
def kX(l:OL)(o:bI)(pl:Int):Except Int OL:=if l.length=4096 then .error pl else .ok (l++[(o,pl)])
def iA(f:OL->Except Int OL):Nat->OL->Except Int OL
 |0,l=>.ok l
 |n+1,l=>match f l with |.error e=>.error e |.ok l'=>if l'.length=l.length then .ok l' else iA f n l'
def tx(env:List (ByteArray×Int))(n:ByteArray):Int:=match env.find? (fun x=>decide (x.1=n)) with |some x=>x.2 |none=>0
def xP(l:List dO)(n:ByteArray):Option Nat:=l.findIdx? fun d=>decide (d.name=n)
def w8(L:List Row)(d:dO):List Row:=lZ L d.from_.toNat (d.JF-d.from_).toNat
def rf(f:OL->Except Int OL):Except Int OL->Except Int OL
 |.error e=>.error e
 |.ok l=>f l
def bF (bk : Bk) (L : List Row) (k : Nat) (env : List (ByteArray × Int)) (w : jU) (pl : Int) (rows : List Row) (l : OL) : Except Int OL :=
  match rows with
  | [] => .ok l
  | r :: rest =>
    rf (fun l' => bF bk L k env w pl (rest.drop r.rows.toNat) l')
      (if r.kind = aK then iA (fun l' => bF bk L k env w pl (rest.take r.rows.toNat) l') r.num.toNat l
       else match xP bk.ds r.name with
        | none => kX l (mi 1 r.name (r.args.map fun a => tx env a.name) 0 w) pl
        | some i => match bk.ds[i]? with
          | none => .ok l
          | some d => if d.ops = 0 then .ok l else if i < k then bF bk L i (d.params.zip (r.args.map fun a => tx env a.name)) w pl (w8 L d) l else .ok l)
termination_by (k, rows.length)
decreasing_by
  all_goals first
    | exact Prod.Lex.right _ (by simp only [List.length_take, List.length_drop, List.length_cons]; omega)
    | exact Prod.Lex.left _ _ (by assumption)
def jK(bk:Bk)(L:List Row)(k:Nat)(n:ByteArray)(qs:List Int)(w:jU)(pl:Int)(l:OL):Except Int OL:=
 match xP bk.ds n with
 |none=>kX l (mi 1 n qs 0 w) pl
 |some i=>match bk.ds[i]? with
  |none=>.ok l
  |some d=>if d.ops=0 then .ok l else if i<k then bF bk L i (d.params.zip qs) w pl (w8 L d) l else .ok l
theorem Dz{bk:Bk}{L:List Row}{k:Nat}{env:List (ByteArray×Int)}{w:jU}{pl:Int}{l:OL}:bF bk L k env w pl [] l=.ok l:=by rw[bF]
theorem BB{bk:Bk}{L:List Row}{k:Nat}{env:List (ByteArray×Int)}{w:jU}{pl:Int}{r:Row}{rest:List Row}{l:OL}:bF bk L k env w pl (r::rest) l =
  rf (bF bk L k env w pl (rest.drop r.rows.toNat)) (if r.kind=aK then iA (bF bk L k env w pl (rest.take r.rows.toNat)) r.num.toNat l else jK bk L k r.name (r.args.map fun a=>tx env a.name) w pl l):=by
 conv=>lhs;rw[bF]
 all_goals rfl
def kB(l:List js)(a:Arg):Int:=(match fA l a.name with |some g=>g.from_ |none=>0)+a.index
def rL(g:js):Int:=IntKind.u64.wrap (IntKind.u64.wrap (IntKind.u64.wrap (1*2^(min g.size.toNat 64))-1)*2^(min g.from_.toNat 64))
def valOf(g:js)(n:Int):Int:=IntKind.u64.wrap (IntKind.u64.wrap n*2^(min g.from_.toNat 64))
def nf(a b:Int):Int:=IntKind.u64.wrap (BitVec.ofInt IntKind.u64.bits a &&& BitVec.ofInt IntKind.u64.bits b).toNat
def G8(a b:Int):Int:=IntKind.u64.wrap (BitVec.ofInt IntKind.u64.bits a |||BitVec.ofInt IntKind.u64.bits b).toNat
def pU(w:jU)(g:js)(n:Int):Option jU:=if nf w.value (rL g)≠nf (valOf g n) w.cT then none else some ⟨true,G8 w.cT (rL g),G8 w.value (valOf g n)⟩
def jS (bk : Bk) (L : List Row) (w : jU) (rows : List Row) (l : OL) : Except Int OL :=
  match rows with
  | [] => .ok l
  | r :: rest =>
    rf (fun l' => jS bk L w (rest.drop r.rows.toNat) l')
      (if r.kind = aK then iA (fun l' => jS bk L w (rest.take r.rows.toNat) l') r.num.toNat l
       else if r.kind = c9 then (match fA bk.bs r.name with
        | none => .ok l
        | some g => match pU w g r.num with
          | none => .ok l
          | some w' => jS bk L w' (rest.take r.rows.toNat) l)
       else if r.kind = bP then jK bk L bk.ds.length r.name (r.args.map (kB bk.qs)) w r.place l
       else if r.kind = be then (match r.args with
        | [a, b] => kX l (mi 2 ByteArray.empty [kB bk.qs a] (kB bk.bs b) w) r.place
        | _ => .ok l)
       else if r.kind = ch then kX l (mi 3 ByteArray.empty (r.args.map (kB bk.qs)) 0 w) r.place
       else .ok l)
termination_by rows.length
decreasing_by all_goals (simp only [List.length_take, List.length_drop, List.length_cons]; omega)
def BW (bk : Bk) (L : List Row) (w : jU) (r : Row) (body : List Row) (l : OL) : Except Int OL :=
  if r.kind = aK then iA (jS bk L w body) r.num.toNat l
  else if r.kind = c9 then (match fA bk.bs r.name with
   | none => .ok l
   | some g => match pU w g r.num with
     | none => .ok l
     | some w' => jS bk L w' body l)
  else if r.kind = bP then jK bk L bk.ds.length r.name (r.args.map (kB bk.qs)) w r.place l
  else if r.kind = be then (match r.args with
   | [a, b] => kX l (mi 2 ByteArray.empty [kB bk.qs a] (kB bk.bs b) w) r.place
   | _ => .ok l)
  else if r.kind = ch then kX l (mi 3 ByteArray.empty (r.args.map (kB bk.qs)) 0 w) r.place
  else .ok l
theorem xO{bk:Bk}{L:List Row}{w:jU}{l:OL}:jS bk L w [] l=.ok l:=by rw[jS]
theorem zq{bk:Bk}{L:List Row}{w:jU}{r:Row}{rest:List Row}{l:OL}:jS bk L w (r::rest) l=rf (jS bk L w (rest.drop r.rows.toNat)) (BW bk L w r (rest.take r.rows.toNat) l):=by
 conv=>lhs;rw[jS]
 all_goals rfl
structure Qv where
 q:Int
 b:Int
 ops:List bI
 at_:Int
 err:Int
def eT(L:List Row):Qv:=
 match fB 0 none 0 L ⟨[],[],[]⟩ with
 |.error (pl,e)=>⟨0,0,[],pl,e⟩
 |.ok bk=>match jS bk L ⟨false,0,0⟩ L [] with
  |.error pl=>⟨0,0,[],pl,115⟩
  |.ok l=>
   if (fg (bq bk.qs) (bq bk.bs) (l.map (·.1))).2≠0 then⟨0,0,[],(match l[(fg (bq bk.qs) (bq bk.bs) (l.map (·.1))).1.toNat]? with |some x=>x.2 |none=>0),(fg (bq bk.qs) (bq bk.bs) (l.map (·.1))).2⟩
   else⟨bq bk.qs,bq bk.bs,l.map (·.1),0,0⟩
theorem I8{l:List dO}{n:ByteArray}(h:hH l n=none):xP l n=none:=by
 unfold xP
 rw[List.findIdx?_eq_none_iff]
 intro d hd
 have:=uI h d hd
 simpa using this
theorem NL{bk:Bk}(a:mD bk){k:Nat}{d:dO}(h:bk.ds[k]?=some d):xP bk.ds d.name=some k:=by
 unfold xP
 rw[List.findIdx?_eq_some_iff_getElem]
 obtain⟨h1,h2⟩:=zM.1 h
 refine⟨h1,by rw[h2];simp,fun j hj=>?_⟩
 have hp:=List.pairwise_iff_getElem.1 a.nd j k (by simpa using Nat.lt_trans hj h1) (by simpa using h1) hj
 simp only[List.getElem_map]at hp
 rw[h2]at hp
 simpa using hp
end
section
open Go.Ab
attribute [-simp] aN aD
def TQ(t:TypeId):Bool:=t==97||t==38||t==3
def Sep(x y:AV):Prop:=∀id off n BZ n',x=.sl id off n->y≠.sl id BZ n'
structure PX (n0:Nat) (h:AH) (p:Nat) (xr:AV) (bk:Bk) (ids:List Nat) (qm bm gm:Nat) (l:OL) (pl:Int) (xp xo:AV):Prop where
 n:n0<=p/\cz (n0<=·) xp/\cz (n0<=·) xo
 p:h.obj p=some (B1 xr qm bm gm xp (bq bk.qs) (bq bk.bs) xo pl)
 m:PM h bk ids qm bm gm
 x:bw di 1 3 h xp (l.map (·.2))
 o:∃yl:List (bI×AV),bw b8 7 38 h xo yl/\yl.map (·.1)=l.map (·.1)/\∀y∈yl,cf di 1 3 h y.2 y.1.az/\Sep xp y.2
 len:l.length<=4096
theorem PM.vE{n0:Nat}{h h':AH}{bk:Bk}{ids:List Nat}{qm bm gm:Nat}(a:PM h bk ids qm bm gm)(hf:Fr h h' (TW TQ n0 h)):PM h' bk ids qm bm gm:=
 ⟨TW.obj hf a.q rfl,TW.obj hf a.b rfl,TW.obj hf a.g rfl,a.len,fun k d id h1 h2=>(a.d k d id h1 h2).fr hf fun i o ho ht=>TW.no ho fun _=>by rcases ht with e |e<;>rw[e]<;>rfl,a.nd,a.qb⟩
theorem RT.vE{h h':AH}{xr:AV}{rs:List (Row×AV)}{n0:Nat}(a:RT h xr rs)(f:Fr h h' (TW TQ n0 h)):RT h' xr rs:=⟨a.r.wQ f rfl,fun y hy=>⟨(a.a y hy).1.wQ f rfl,(a.a y hy).2⟩,a.n⟩
theorem PX.bp{n0:Nat}{h h':AH}{p:Nat}{xr:AV}{bk:Bk}{ids:List Nat}{qm bm gm:Nat}{l:OL}{pl:Int}{xp xo:AV}(a:PX n0 h p xr bk ids qm bm gm l pl xp xo)(f:Fr h h' fun _=>False):PX n0 h' p xr bk ids qm bm gm l pl xp xo:=by
 obtain⟨yl,o1,o2,o3⟩:=a.o
 exact⟨a.n,f.bQ a.p,a.m.bp f,a.x.bJ f fun _ _ h=>h,⟨yl,o1.bJ f fun _ _ h=>h,o2,fun y hy=>⟨(o3 y hy).1.bp f,(o3 y hy).2⟩⟩,a.len⟩
theorem PX.rE{n0:Nat}{h:AH}{p:Nat}{xr:AV}{bk:Bk}{ids:List Nat}{qm bm gm:Nat}{l:OL}{pl:Int}{xp xo:AV}(a:PX n0 h p xr bk ids qm bm gm l pl xp xo):Co h p pl:=⟨_,a.p,rfl⟩
theorem cz.lift{α:Type}{f:α->List AV}{sz:Nat}{ty:TypeId}{h:AH}{x:AV}{l:List α}(a:bw f sz ty h x l){W:Nat->Prop}(hw:∀id,h.obj id≠none->W id):cz W x:=by
 intro id off n e
 rcases a with⟨rfl,_⟩ |⟨i,rfl,ho⟩
 ·cases e
 ·cases e
  exact hw _ (by rw[ho];simp)
theorem pF{α:Type}{f:α->List AV}{sz:Nat}{ty:TypeId}{h:AH}{x:AV}{l:List α}(a:bw f sz ty h x l){i:Nat}{o:AO}(ho:h.obj i=some o)(ht:o.ty≠ty):¬ ∃off n,x=.sl i off n:=by
 rintro⟨off,n,e⟩
 rcases a with⟨rfl,_⟩ |⟨j,rfl,hj⟩
 ·cases e
 ·cases e
  rw[ho]at hj;cases hj
  exact ht rfl
theorem QU{α:Type}{f:α->List AV}{sz:Nat}{ty:TypeId}{h:AH}{x z:AV}{l:List α}(a:cz (h.next<=·) x)(b:cf f sz ty h z l):Sep x z:=by
 intro id off n BZ n' e1 e2
 have h1:=a _ _ _ e1
 subst e2
 rcases b with⟨e,_⟩ |⟨_,_,e,_⟩ |⟨j,rest,ro,nL,e,_,hj⟩
 ·cases e
 ·cases e
 ·cases e
  have:=h.lt _ _ hj
  omega
theorem ZC{α:Type}{f:α->List AV}{sz:Nat}{ty:TypeId}{h h':AH}{x z:AV}{l:List α}(b:cf f sz ty h z l)(hf:Fr h h' fun i=>∃off n,x=.sl i off n)(hs:Sep x z):cf f sz ty h' z l:=by
 rcases b with e |e |⟨j,rest,ro,nL,rfl,ht,hj⟩
 ·exact .inl e
 ·exact .inr (.inl e)
 ·exact .inr (.inr ⟨j,rest,ro,nL,rfl,ht,hf.obj hj fun⟨off,n,e⟩=>hs _ _ _ _ _ e rfl⟩)
def PE(n0:Nat)(xr:AV)(bk:Bk)(ids:List Nat)(qm bm gm:Nat)(h:AH)(p:Nat)(e:Int):Prop:=∃l xp xo,PX n0 h p xr bk ids qm bm gm l e xp xo
theorem PX.ZD{n0:Nat}{h:AH}{p:Nat}{xr:AV}{bk:Bk}{ids:List Nat}{qm bm gm:Nat}{l:OL}{pl:Int}{xp xo:AV}(px:PX n0 h p xr bk ids qm bm gm l pl xp xo){e:Int}:PX n0 (h.put p 8 [I e]) p xr bk ids qm bm gm l e xp xo/\Fr h (h.put p 8 [I e]) (TW TQ n0 h):=by
 have f:Fr h (h.put p 8 [I e]) (·=p):=Fr.refl.put (.inl rfl)
 have o:=fF (off:=8) (cs:=[I e]) px.p
 generalize h.put p 8 [I e]=h1 at *
 have g:Fr h h1 (TW TQ n0 h):=TW.nk f px.n.1 px.p rfl rfl
 obtain⟨yl,o1,o2,o3⟩:=px.o
 refine⟨⟨px.n,o,px.m.vE g,px.x.bJ f fun id e he=>?_,⟨yl,o1.bJ f fun id e he=>?_,o2,fun y hy=>⟨(o3 y hy).1.fr f fun id o ho ht e=>?_,(o3 y hy).2⟩⟩,px.len⟩,g⟩
 ·subst he;exact pF px.x px.p (show(97:Nat)≠3 by decide) ⟨_,_,e⟩
 ·subst he;exact pF o1 px.p (show(97:Nat)≠38 by decide) ⟨_,_,e⟩
 ·subst e
  have hp:=px.p
  rw[ho]at hp;cases hp
  exact absurd (ht rfl) (show(97:Nat)≠3 by decide)
section
variable {h:AH} {M:Nat->Prop} {R:AE->AH->Prop} {n0 p:Nat} {xr xp xo xq:AV} {bk:Bk} {ids:List Nat} {qm bm gm:Nat} {l:OL} {pl place:Int} {k b:Int} {n:ByteArray} {qs:List Int} {w:jU}
abbrev qC(w:jU):List AV:=[B w.is,U w.cT,U w.value]
theorem Ek(px:PX n0 h p xr bk ids qm bm gm l pl xp xo)(hq:cf di 1 3 h xq qs)(sep:Sep xp xq)(hM:∀id,TW TQ n0 h id->M id)
  (he:∀h',kX l (mi k n qs b w) place=.error place->PE n0 xr bk ids qm bm gm h' p place->Fr h h' (TW TQ n0 h)->R (.ret (B false)) h')
  (hk:∀l' ib jO jP h',kX l (mi k n qs b w) place=.ok l'->PX n0 h' p xr bk ids qm bm gm l' ib jO jP->Fr h h' (TW TQ n0 h)->R (.ret (B true)) h') :
  ay Pg 71 [.ptr p 0,.agg [I k,Sb n,xq,I b,B false,U 0,U 0],.agg (qC w),I place] h M R:=by
 apply vG.aI
 unfold vG.n9
 refine cW (by show(true&&(true&&(cB xq&&true)))=true;rw[hq.one.1];rfl) fun vo h1 f1 Px oo=>?_
 refine cW rfl fun vw h2 f2 Ua ow=>?_
 have cu:=f1.bO f2
 have XI:=f2.bQ oo
 have gf:=px.bp cu
 have X_:=hq.bp cu
 have cC:vo≠vw:=fun e=>by
  have:=h1.lt _ _ oo
  omega
 have Yy:∀{h3:AH},Fr h h3 (TW TQ n0 h)->∀id,TW TQ n0 h3 id->(M id\/h.next<=id):=fun f id hid=>(TW.back f hid).elim (fun h=>.inl (hM id h)) .inr
 have mp:∀{h3:AH},(M p\/h3.next<=p):=.inl (hM p ⟨px.n.1,_,px.p,rfl,rfl⟩)
 unfold kX at he hk
 simp only[vG.n8,aT,al,aF,gf.p,aB,zG,Nat.reduceAdd,zA,zB,ah]
 obtain⟨yl,o1,o2,o3⟩:=gf.o
 have ET:yl.length=l.length:=by have:=congrArg List.length o2;simpa using this
 simp only[o1.fl.len.1,o1.fl.len.2,zH,dD,ET]
 by_cases k1:l.length=4096
 ·rw[zX k1]at he
  have iu:((l.length:Int)==4096)=true:=by rw[k1];rfl
  simp only[iu,vG.n7,ao,zD,zF,zC,zI,vG.n6,aT,al,aD,gf.p,eJ,cH]
  refine⟨⟨mp (h3:=h),rfl,rfl,by simp⟩,?_⟩
  obtain⟨vR,f3⟩:=gf.ZD (e:=place)
  generalize h2.put p 8 [I place]=h3 at *
  simpa[vG.n5] using he h3 rfl ⟨l,xp,xo,vR⟩ (TW.trans (TW.bJ cu) f3)
 ·rw[zW k1]at hk
  have iu:((l.length:Int)==4096)=false:=by
   have:¬(l.length:Int)=4096:=by omega
   simpa using this
  simp only[iu,vG.n7,ao,zE,zD,zC,zH,vG.n4]
  refine⟨fun _=>vw,fun _ _=>by rw[ow];simp,?_⟩
  simp only[al,aF,ow,aB,zG,zA,zB,ah,zH,aD,XI,uR,cH]
  have wo:∀{i:Nat},i=vo->(M i\/h.next<=i):=fun e=>by subst e;exact .inr Px
  refine⟨⟨⟨wo rfl,fun _ _=>cC⟩,rfl,rfl,by simp⟩,?_⟩
  have f3:Fr h (h2.put vo 4 [B w.is]) fun _=>False:=cu.put (.inr Px)
  have XH:=fF (off:=4) (cs:=[B w.is]) XI
  generalize h2.put vo 4 [B w.is]=h3 at *
  simp only[XH,eJ,cH]
  refine⟨⟨⟨wo rfl,fun _ _=>cC⟩,rfl,rfl,by simp⟩,?_⟩
  have f4:Fr h (h3.put vo 5 [U w.cT]) fun _=>False:=f3.put (.inr Px)
  have XG:=fF (off:=5) (cs:=[U w.cT]) XH
  generalize h3.put vo 5 [U w.cT]=h4 at *
  simp only[XG,eJ,cH]
  refine⟨⟨wo rfl,rfl,rfl,by simp⟩,?_⟩
  have f5:Fr h (h4.put vo 6 [U w.value]) fun _=>False:=f4.put (.inr Px)
  have oo5:=fF (off:=6) (cs:=[U w.value]) XG
  generalize h4.put vo 6 [U w.value]=h5 at *
  have su:=px.bp f5
  have hq5:=hq.bp f5
  obtain⟨yl,o1,o2,o3⟩:=su.o
  have abG:yl.length=l.length:=by have:=congrArg List.length o2;simpa using this
  have abC:=px.len
  simp only[vG.n3,aT,al,aF,su.p,aB,zG,Nat.reduceAdd,zA,zB,ah]
  refine dN oo5 rfl fun _=>?_
  refine FX (f:=b8) (t:=(mi k n qs b w,xq)) hG (by omega) rfl (by omega) rfl (ki hq.one.1) o1 ?_ (by omega) fun y h6 hy T3 f6=>?_
  ·intro id off n e
   rcases o1 with⟨e1,_⟩ |⟨j,e1,ho⟩
   ·rw[e1]at e;cases e
   ·rw[e1]at e;cases e
    exact(Yy (TW.bJ f5) _ ⟨px.n.2.2 _ _ _ e1,_,ho,rfl,rfl⟩)
  ·have oy:[y].all cB=true:=by show(cB y&&true)=true;rw[hy.fl.one.1];rfl
   have np:¬ ∃off n,xo=.sl p off n:=pF o1 su.p (show(97:Nat)≠38 by decide)
   have p6:=f6.obj su.p np
   have g6:Fr h h6 (TW TQ n0 h):=by
    refine TW.trans (TW.bJ f5) (f6.mono fun i ⟨off,n,e⟩=>?_)
    rcases o1 with⟨e1,_⟩ |⟨j,e1,ho⟩
    ·rw[e1]at e;cases e
    ·rw[e1]at e;cases e
     exact⟨px.n.2.2 _ _ _ e1,_,ho,rfl,rfl⟩
   have x6:bw di 1 3 h6 xp (l.map (·.2)):=su.x.bJ f6 fun id e=>by
    rcases su.x with⟨e1,_⟩ |⟨j,e1,ho⟩
    ·rw[e1]at e;cases e
    ·rw[e1]at e;cases e
     exact pF o1 ho (show(3:Nat)≠38 by decide)
   have q6:∀{z:AV}{zl:List Int},cf di 1 3 h5 z zl->cf di 1 3 h6 z zl:=fun hz=>hz.fr f6 fun id o ho ht ⟨off,n,e⟩=>by
    rcases o1 with⟨e1,_⟩ |⟨j,e1,hj⟩
    ·rw[e1]at e;cases e
    ·rw[e1]at e;cases e
     rw[hj]at ho;cases ho
     exact absurd (ht rfl) (show(38:Nat)≠3 by decide)
   simp only[aT,al,aD,p6,hy.fl.one.2,cH,zG,Nat.reduceAdd]
   refine⟨⟨mp (h3:=h),oy,rfl,by simp⟩,?_⟩
   have f7:Fr h6 (h6.put p 7 [y]) (·=p):=Fr.refl.put (.inl rfl)
   have p7:=fF (off:=7) (cs:=[y]) p6
   generalize h6.put p 7 [y]=h7 at *
   have g7:=TW.trans g6 (TW.nk (T:=TQ) f7 px.n.1 p6 rfl rfl)
   have x7:bw di 1 3 h7 xp (l.map (·.2)):=x6.bJ f7 fun id e he=>by
    subst he
    exact pF x6 p6 (show(97:Nat)≠3 by decide) ⟨_,_,e⟩
   have y7:bw b8 7 38 h7 y (yl++[(mi k n qs b w,xq)]):=hy.bJ f7 fun id e he=>by
    subst he
    exact pF hy p6 (show(97:Nat)≠38 by decide) ⟨_,_,e⟩
   have q7:∀{z:AV}{zl:List Int},cf di 1 3 h6 z zl->cf di 1 3 h7 z zl:=fun hz=>hz.fr f7 fun id o ho ht e=>by
    subst e
    rw[p6]at ho;cases ho
    exact absurd (ht rfl) (show(97:Nat)≠3 by decide)
   simp only[vG.n2,aT,al,aF,p7,putCells,List.set_cons_zero,List.set_cons_succ,aB,zG,Nat.reduceAdd,zA,zB,ah]
   refine FX (f:=di) (t:=place) fT (by omega) rfl (by omega) rfl rfl x7 ?_ (by have:=px.len;simp only[zZ];omega) fun z h8 hz He f8=>?_
   ·intro id off n e
    rcases x7 with⟨e1,_⟩ |⟨j,e1,ho⟩
    ·rw[e1]at e;cases e
    ·rw[e1]at e;cases e
     exact(Yy g7 _ ⟨px.n.2.1 _ _ _ e1,_,ho,rfl,rfl⟩)
   ·have oz:[z].all cB=true:=by show(cB z&&true)=true;rw[hz.fl.one.1];rfl
    have np8:¬ ∃off n,xp=.sl p off n:=pF x7 p7 (show(97:Nat)≠3 by decide)
    have p8:=f8.obj p7 np8
    have g8:Fr h h8 (TW TQ n0 h):=by
     refine TW.trans g7 (f8.mono fun i ⟨off,n,e⟩=>?_)
     rcases x7 with⟨e1,_⟩ |⟨j,e1,ho⟩
     ·rw[e1]at e;cases e
     ·rw[e1]at e;cases e
      exact⟨px.n.2.1 _ _ _ e1,_,ho,rfl,rfl⟩
    have y8:bw b8 7 38 h8 y (yl++[(mi k n qs b w,xq)]):=y7.bJ f8 fun id e=>by
     rcases y7 with⟨e1,_⟩ |⟨j,e1,ho⟩
     ·rw[e1]at e;cases e
     ·rw[e1]at e;cases e
      exact pF x7 ho (show(38:Nat)≠3 by decide)
    simp only[aT,al,aD,p8,hz.fl.one.2,cH,zG,Nat.reduceAdd]
    refine⟨⟨mp (h3:=h),oz,rfl,by simp⟩,?_⟩
    have f9:Fr h8 (h8.put p 4 [z]) (·=p):=Fr.refl.put (.inl rfl)
    have p9:=fF (off:=4) (cs:=[z]) p8
    generalize h8.put p 4 [z]=h9 at *
    have g9:=TW.trans g8 (TW.nk (T:=TQ) f9 px.n.1 p8 rfl rfl)
    have z9:bw di 1 3 h9 z (l.map (·.2)++[place]):=hz.bJ f9 fun id e he=>by
     subst he
     exact pF hz p8 (show(97:Nat)≠3 by decide) ⟨_,_,e⟩
    have y9:bw b8 7 38 h9 y (yl++[(mi k n qs b w,xq)]):=y8.bJ f9 fun id e he=>by
     subst he
     exact pF y8 p8 (show(97:Nat)≠38 by decide) ⟨_,_,e⟩
    have q9:∀{z:AV}{zl:List Int},cf di 1 3 h8 z zl->cf di 1 3 h9 z zl:=fun hz=>hz.fr f9 fun id o ho ht e=>by
     subst e
     rw[p8]at ho;cases ho
     exact absurd (ht rfl) (show(97:Nat)≠3 by decide)
    have S7:∀{v:AV}{zl:List Int},cf di 1 3 h5 v zl->Sep xp v->cf di 1 3 h9 v zl/\Sep z v:=fun{v zl} hv hs=>by
     have YF:cf di 1 3 h7 v zl:=q7 (q6 hv)
     exact⟨q9 (ZC YF f8 hs),QU He YF⟩
    have lt:∀{a b:AH}{S:Nat->Prop},Fr a b S->∀{x:AV},cz (b.next<=·) x->cz (a.next<=·) x:=fun f x hx id off n e=>zR f.next (hx _ _ _ e)
    simp only[vG.n1]
    have fin:=hk (l++[(mi k n qs b w,place)]) pl z y h9 rfl ⟨⟨px.n.1,fun id off n e=>?_,fun id off n e=>?_⟩,?_,px.m.vE g9,by simpa using z9,⟨_,y9,by simp[o2],fun v hv=>?_⟩,by simp only[List.length_append,List.length_singleton];have:=px.len;omega⟩ g9
    ·simpa using fin
    ·have h1:=lt g7 He _ _ _ e
     have h2:=h.lt _ _ px.p
     have h3:=px.n.1
     omega
    ·have h1:=lt (TW.bJ (T:=TQ) (n0:=n0) f5) T3 _ _ _ e
     have h2:=h.lt _ _ px.p
     have h3:=px.n.1
     omega
    ·simpa[putCells] using p9
    ·rcases List.mem_append.1 hv with hv |hv
     ·exact S7 (o3 v hv).1 (o3 v hv).2
     ·have:=List.mem_singleton.1 hv
      subst this
      exact S7 hq5 sep
end
end
section
open Go.Ab
attribute [-simp] aN aD
theorem Qr{l:List js}{a:Arg}(h:jT l a=0):∃g,fA l a.name=some g/\0<=a.index/\a.index<g.size:=by
 unfold jT at h
 split at h
 ·cases h
 ·rename_i g hg
  split at h
  ·cases h
  ·exact⟨g,hg,by omega,by omega⟩
section
variable {h:AH} {M:Nat->Prop} {R:AE->AH->Prop} {p:Nat} {x1:AV} {bk:Bk} {ids:List Nat} {qm bm gm:Nat} {cs:List AV} {args:List Arg}
theorem Iv(hp:h.obj p=some (aO cs 9 97))(c1:cs[1]?=some (.mp qm))(pm:PM h bk ids qm bm gm)(ok:Cq bk)(ha:cf Arg.enc 2 67 h x1 args)(hl:args.length<=100000000)(Ba:∀a∈args,jT bk.qs a=0)
  (hR:∀y h',bw di 1 3 h' y (args.map (kB bk.qs))->cz (h.next<=·) y->Fr h h' (fun _=>False)->R (.ret y) h'):ay Pg 70 [.ptr p 0,x1] h M R:=by
 apply tg.aI
 unfold tg.aP tg.n9 tg.n8
 refine⟨ha.len.1,?_⟩
 rw[ha.len.2]
 unfold tg.n7
 refine bX (ι:=Nat×AV) (fun i v h'=>v=[.ptr p 0,i.2,x1,I args.length,I i.1]/\i.1<=args.length/\Fr h h' (fun _=>False)/\bw di 1 3 h' i.2 ((args.take i.1).map (kB bk.qs))/\cz (h.next<=·) i.2) (fun i=>args.length-i.1) (0,aV) ⟨rfl,by omega,Fr.refl,by simpa using bw.nil,fun _ _ _ e=>by cases e⟩ ?_
 rintro K ⟨i,x5⟩ v h1 ⟨rfl,hi,f1,hx,hs⟩ step
 simp only at hi hx hs step
 simp only[tg.cn,zN,zO,tg.n6,ba]
 by_cases aM:i<args.length
 ·have dh:(i:Int)<args.length:=by omega
  have g1:args[i]?=some args[i]:=zJ aM
  have lC:=List.getElem_mem aM
  have fG:args.take (i+1)=args.take i++[args[i]]:=by rw[List.take_add_one,g1];rfl
  generalize args[i]=a at *
  obtain⟨g,hg,i0,i1⟩:=Qr (Ba a lC)
  have hgs:=ok.sq g (List.mem_of_find?_eq_some hg)
  have ht:=ok.tq
  simp only[zL dh,tg.n5,ao,zD,zF,zC,zI,tg.n4]
  refine hZ (ha.bp f1) Arg.ci (Arg.gL a) g1 rfl rfl (fun id hid=>.inr (zR f1.next hid)) fun vn h2 f2 qe ov=>?_
  have cu:=f1.bO f2
  simp only[tg.n3,aT,al,aF,cu.bQ hp,ov,aB,zG,c1,Arg.enc,zA,zB,ah]
  refine ir (enc:=Sb) jD z93 (pm.bp cu).q fun _=>?_
  rw[kZ,hg]
  have w1:IntKind.i64.wrap (g.from_+a.index)=kB bk.qs a:=by
   unfold kB
   rw[hg]
   exact aL (by omega) (by omega)
  have w2:IntKind.i64.wrap ((i:Int)+1)=((i+1:Nat):Int):=by rw[aL (by omega) (by omega)];simp
  simp only[yB,gu,zE,if_false,uG,l7,List.take,List.drop,zA,al,aF,ov,aB,zG,zB,ah,aR,w1]
  refine⟨_,rfl,?_⟩
  simp only[aR,w1]
  refine FX (f:=di) (t:=kB bk.qs a) fT (by omega) rfl (by omega) rfl rfl (hx.bJ f2 fun _ _ h=>h) (fun id off n e=>.inr (hs id off n e)) (by rw[zZ,yA];omega) fun y h3 hy T3 f3=>?_
  have eO:Fr h h3 fun _=>False:=cu.trans (f3.mono fun j ⟨off,n,e⟩=>.inr (hs j off n e))
  simp only[tg.n2,aR,w2]
  refine step (i+1,y) _ h3 (by simp only;omega) ⟨rfl,by simp only;omega,eO,?_,fun id off n e=>zR cu.next (T3 id off n e)⟩
  rw[fG,List.map_append]
  exact hy
 ·have df:¬(i:Int)<args.length:=by omega
  have e:i=args.length:=by omega
  subst e
  rw[List.take_length]at hx
  simpa[df,tg.n5,tg.n1] using hR x5 h1 hx hs f1
end
end
section
open Go.Ab
attribute [-simp] aN aD
abbrev ze(env:List (ByteArray×Int)):AO:=lB Sb 157 (env.map fun x=>(x.1,I x.2))
theorem Nv{n:ByteArray}{env:List (ByteArray×Int)}:(match eu n (env.map fun x=>(x.1,I x.2)) with |some v=>v |none=>I 0)=I (tx env n):=by
 rw[zn (f:=fun x:ByteArray×Int=>x.1) (g:=fun x=>I x.2)]
 unfold tx
 cases env.find? fun x=>decide (x.1=n)<;>rfl
structure SC (bk:Bk) (rs:List (Row×AV)):Prop where
 bf:pd bk
 dk:∀k,Jv bk (rs.map (·.1)) k
 nm:∀y∈rs,y.1.num<=9223372036854775807
def Jw(n0 p:Nat)(xr:AV)(bk:Bk)(ids:List Nat)(qm bm gm:Nat)(rs:List (Row×AV))(k n:Nat):Prop:=
 ∀(h:AH)(M:Nat->Prop)(R:AE->AH->Prop)(a:Nat)(env:List (ByteArray×Int))(mb:Nat)(w:jU)(pl place:Int)(xp xo:AV)(l:OL)(ps:List ByteArray),PX n0 h p xr bk ids qm bm gm l pl xp xo->RT h xr rs->a+n<=rs.length ->
  h.obj mb=some (ze env)->GB bk k ps (sg rs a n)->(∀id,TW TQ n0 h id->M id) ->
  (∀e h',bF bk (rs.map (·.1)) k env w place (sg rs a n) l=.error e->PE n0 xr bk ids qm bm gm h' p e->Fr h h' (TW TQ n0 h)->R (.ret (B false)) h') ->
  (∀l' ib jO jP h',bF bk (rs.map (·.1)) k env w place (sg rs a n) l=.ok l'->PX n0 h' p xr bk ids qm bm gm l' ib jO jP->Fr h h' (TW TQ n0 h)->R (.ret (B true)) h') ->
  ay Pg 94 [.ptr p 0,I a,I (a+n),.mp mb,.agg (qC w),I place] h M R
def W0(bk:Bk)(k:Nat)(nm:ByteArray)(n:Nat):Prop:=hH bk.ds nm=none\/∃j d,j<k/\bk.ds[j]?=some d/\d.name=nm/\n=d.params.length
def BI(n0 p:Nat)(xr:AV)(bk:Bk)(ids:List Nat)(qm bm gm:Nat)(rs:List (Row×AV))(k:Nat):Prop:=
 ∀(h:AH)(M:Nat->Prop)(R:AE->AH->Prop)(nm:ByteArray)(qs:List Int)(xq:AV)(w:jU)(pl place:Int)(xp xo:AV)(l:OL),PX n0 h p xr bk ids qm bm gm l pl xp xo->RT h xr rs ->
  cf di 1 3 h xq qs->Sep xp xq->W0 bk k nm qs.length->(∀id,TW TQ n0 h id->M id) ->
  (∀e h',jK bk (rs.map (·.1)) k nm qs w place l=.error e->PE n0 xr bk ids qm bm gm h' p e->Fr h h' (TW TQ n0 h)->R (.ret (B false)) h') ->
  (∀l' ib jO jP h',jK bk (rs.map (·.1)) k nm qs w place l=.ok l'->PX n0 h' p xr bk ids qm bm gm l' ib jO jP->Fr h h' (TW TQ n0 h)->R (.ret (B true)) h') ->
  ay Pg 69 [.ptr p 0,Sb nm,xq,.agg (qC w),I place] h M R
theorem PX.pY{n0:Nat}{h:AH}{p:Nat}{xr:AV}{bk:Bk}{ids:List Nat}{qm bm gm:Nat}{l:OL}{pl:Int}{xp xo:AV}(a:PX n0 h p xr bk ids qm bm gm l pl xp xo):aW xo=false/\∀K:AV->Prop,bL xo K=K (I l.length):=by
 obtain⟨yl,o1,o2,_⟩:=a.o
 have ET:yl.length=l.length:=by have:=congrArg List.length o2;simpa using this
 rw[<-ET]
 exact o1.fl.len
section
variable {W:Nat->Prop} {QR QN:VK} {QE:Nat->VK} {QP:AV->AH->Prop} {h:AH} {n0 p vw vr mb:Nat} {xr xp xo x2:AV} {bk:Bk} {ids:List Nat} {qm bm gm:Nat} {l:OL} {pl place:Int} {rs:List (Row×AV)} {w:jU} {y:Row×AV} {k j kk:Nat} {env:List (ByteArray×Int)} {ps:List ByteArray}
theorem R5(hB:Jw n0 p xr bk ids qm bm gm rs k kk)(px:PX n0 h p xr bk ids qm bm gm l pl xp xo)(rt:RT h xr rs)(hj:j+1+kk<=rs.length)(om:h.obj mb=some (ze env))(ow:h.obj vw=some (aO (qC w) 3 100))(dq:h.obj vr=some (aO (au y) 6 46))(KY:y.1.rows=kk)
  (hg:GB bk k ps (sg rs (j+1) kk)) (hW:∀id,TW TQ n0 h id\/h.next<=id->W id)
  (he:∀e h',iA (bF bk (rs.map (·.1)) k env w place (sg rs (j+1) kk)) y.1.num.toNat l=.error e->PE n0 xr bk ids qm bm gm h' p e->Fr h h' (TW TQ n0 h)->QR [B false] h')
  (hk:∀l' ib jO jP h',iA (bF bk (rs.map (·.1)) k env w place (sg rs (j+1) kk)) y.1.num.toNat l=.ok l'->PX n0 h' p xr bk ids qm bm gm l' ib jO jP->Fr h h' (TW TQ n0 h)->eP.n2 W QR QN QE QP (.ptr p 0) x2 (.mp mb) (I place) (.ptr vw 0) (I j) h') (qA:y.1.num<=9223372036854775807) :
  eP.bY W QR QN QE QP (.ptr p 0) x2 (.mp mb) (I place) (.ptr vw 0) (I j) (.ptr vr 0) h:=by
 unfold eP.bY eP.bZ
 have hlen:=rt.n
 refine bX (ι:=Nat×OL×Int×AV×AV) (fun i v h'=>v=[.ptr p 0,x2,.mp mb,I place,.ptr vw 0,I j,.ptr vr 0,I (y.1.num.toNat-i.1:Nat)]/\i.1<=y.1.num.toNat/\PX n0 h' p xr bk ids qm bm gm i.2.1 i.2.2.1 i.2.2.2.1 i.2.2.2.2/\iA (bF bk (rs.map (·.1)) k env w place (sg rs (j+1) kk)) i.1 i.2.1=iA (bF bk (rs.map (·.1)) k env w place (sg rs (j+1) kk)) y.1.num.toNat l/\Fr h h' (TW TQ n0 h)) (fun i=>i.1) (y.1.num.toNat,l,pl,xp,xo) ⟨by simp,zU _,px,rfl,TW.bJ Fr.refl⟩ ?_
 rintro K ⟨c,l1,AB,z_,u7⟩ v h1 ⟨rfl,hc,l6,cJ,f1⟩ step
 simp only at hc l6 cJ step
 have ve:h1.obj vr=some (aO (au y) 6 46):=TW.obj f1 dq rfl
 have G7:h1.obj vw=some (aO (qC w) 3 100):=TW.obj f1 ow rfl
 have om1:h1.obj mb=some (ze env):=TW.obj f1 om rfl
 simp only[eP.rY,zN,zO,eP.bD,al,aF,ve,aB,zG,au,zA,zB,ah,ba]
 cases c with
 |zero=>
  have e1:decide (((y.1.num.toNat-0:Nat):Int)<y.1.num)=false:=by simp;omega
  simp only[iA]at cJ
  simp only[e1,eP.bG,ao,zE,zD,zC,zH,zV,if_false,eP.bn,zN,zO]
  exact hk l1 AB z_ u7 h1 cJ.symm l6 f1
 |succ c=>
  have e1:decide (((y.1.num.toNat-(c+1):Nat):Int)<y.1.num)=true:=by simp;omega
  have w1:∀x:Int,0<=x/\x<=1000000000->IntKind.i64.wrap x=x:=fun x hx=>aL (by omega) (by omega)
  simp only[iA]at cJ
  simp only[e1,eP.bG,ao,zD,zF,zC,zI,eP.bE,aT,al,aF,l6.p,aB,zG,Nat.reduceAdd,zA,zB,ah,l6.pY.1,l6.pY.2,zH,eP.bC,ve,au,KY,aR,w1 ((j:Int)+1) (by omega),w1 ((j:Int)+1+kk) (by omega)]
  refine dN G7 rfl fun _=>?_
  refine⟨TW TQ n0 h1,fun id hs _=>hW id (TW.back f1 hs),hB h1 _ _ (j+1) env mb w AB place z_ u7 l1 ps l6 (rt.vE f1) hj om1 hg (fun _ h=>h) ?_ ?_⟩
  ·intro e h2 hb hp f2
   rw[hb]at cJ
   simp only[dR,zT,eP.bz,ao,zD,zF,zC,zI,eP.bu]
   exact he e h2 cJ.symm hp (TW.trans f1 f2)
  ·intro l2 ni qF nZ h2 hb gf f2
   rw[hb]at cJ
   simp only at cJ
   have cu:=TW.trans f1 f2
   simp only[dR,zS,eP.bz,ao,zE,zD,zC,zH,eP.bg,aT,al,aF,gf.p,aB,zG,Nat.reduceAdd,zA,zB,ah,gf.pY.1,gf.pY.2,dD]
   by_cases k1:l2.length=l1.length
   ·rw[zX k1]at cJ
    have iu:((l2.length:Int)==(l1.length:Int))=true:=by rw[k1];simp
    simp only[iu,eP.aZ,ao,zD,zF,zC,zI,zV,eP.bn,zN,zO]
    exact hk l2 ni qF nZ h2 cJ.symm gf cu
   ·rw[zW k1]at cJ
    have iu:((l2.length:Int)==(l1.length:Int))=false:=by simp;omega
    have w3:IntKind.i64.wrap (((y.1.num.toNat-(c+1):Nat):Int)+1)=((y.1.num.toNat-c:Nat):Int):=by rw[aL (by omega) (by omega)];omega
    simp only[iu,eP.aZ,ao,zE,zD,zC,zH,eP.bj,aR,w3]
    exact step (c,l2,ni,qF,nZ) _ h2 (by simp only;omega) ⟨rfl,by simp only;omega,gf,cJ,cu⟩
theorem MS{n:ByteArray}:gu false (I 0) (eu n (env.map fun x=>(x.1,I x.2)))=I (tx env n):=by
 rw[<-Nv]
 cases eu n (env.map fun x=>(x.1,I x.2))<;>rfl
theorem GZ{α:Type}{f:α->List AV}{sz:Nat}{ty:TypeId}{h:AH}{x z:AV}{l:List α}(a:bw f sz ty h x l)(b:cz (h.next<=·) z):Sep x z:=by
 intro id off n BZ n' e1 e2
 have h1:=b _ _ _ e2
 rcases a with⟨e,_⟩ |⟨j,e,hj⟩
 ·rw[e1]at e;cases e
 ·rw[e1]at e;cases e
  have:=h.lt _ _ hj
  omega
theorem R4(hA:BI n0 p xr bk ids qm bm gm rs k)(px:PX n0 h p xr bk ids qm bm gm l pl xp xo)(rt:RT h xr rs)(hy:rs[j]?=some y)(om:h.obj mb=some (ze env))(ow:h.obj vw=some (aO (qC w) 3 100))(dq:h.obj vr=some (aO (au y) 6 46))
  (hu:zw bk k y.1) (hW:∀id,TW TQ n0 h id\/h.next<=id->W id)
  (he:∀e h',jK bk (rs.map (·.1)) k y.1.name (y.1.args.map fun a=>tx env a.name) w place l=.error e->PE n0 xr bk ids qm bm gm h' p e->Fr h h' (TW TQ n0 h)->QR [B false] h')
  (hk:∀l' ib jO jP h',jK bk (rs.map (·.1)) k y.1.name (y.1.args.map fun a=>tx env a.name) w place l=.ok l'->PX n0 h' p xr bk ids qm bm gm l' ib jO jP->Fr h h' (TW TQ n0 h)->eP.n2 W QR QN QE QP (.ptr p 0) x2 (.mp mb) (I place) (.ptr vw 0) (I j) h') :
  eP.a_ W QR QN QE QP (.ptr p 0) x2 (.mp mb) (I place) (.ptr vw 0) (I j) (.ptr vr 0) h:=by
 obtain⟨ha,hl⟩:=rt.a y (zP hy)
 simp only[eP.a_,eP.aQ,al,aF,dq,aB,zG,au,zA,zB,ah,ha.len.1,ha.len.2,zH]
 unfold eP.aU
 refine bX (ι:=Nat×AV) (fun i v h'=>v=[.ptr p 0,x2,.mp mb,I place,.ptr vw 0,I j,.ptr vr 0,i.2,y.2,I y.1.args.length,I i.1]/\i.1<=y.1.args.length/\Fr h h' (fun _=>False)/\bw di 1 3 h' i.2 ((y.1.args.take i.1).map fun a=>tx env a.name)/\cz (h.next<=·) i.2) (fun i=>y.1.args.length-i.1) (0,aV) ⟨rfl,by omega,Fr.refl,by simpa using bw.nil,fun _ _ _ e=>by cases e⟩ ?_
 rintro K ⟨i,x5⟩ v h1 ⟨rfl,hi,f1,hx,hs⟩ step
 simp only at hi hx hs step
 simp only[eP.fI,zN,zO,eP.aP,ba]
 have ve:=f1.bQ dq
 by_cases aM:i<y.1.args.length
 ·have dh:(i:Int)<y.1.args.length:=by omega
  have g1:y.1.args[i]?=some y.1.args[i]:=zJ aM
  have fG:y.1.args.take (i+1)=y.1.args.take i++[y.1.args[i]]:=by rw[List.take_add_one,g1];rfl
  generalize y.1.args[i]=a at *
  simp only[zL dh,eP.n9,ao,zD,zF,zC,zI,eP.n8]
  refine hZ (ha.bp f1) Arg.ci (Arg.gL a) g1 rfl rfl (fun id hid=>hW id (.inr (zR f1.next hid))) fun vn h2 f2 qe ov=>?_
  have cu:=f1.bO f2
  simp only[eP.n7,al,aF,ov,aB,zG,Arg.enc,zA,zB,ah]
  refine ir (enc:=Sb) jD z3 (cu.bQ om) fun _=>?_
  rw[MS]
  have w2:IntKind.i64.wrap ((i:Int)+1)=((i+1:Nat):Int):=by rw[aL (by omega) (by omega)];simp
  refine FX (f:=di) (t:=tx env a.name) fT (by omega) rfl (by omega) rfl rfl (hx.bJ f2 fun _ _ h=>h) (fun id off n e=>hW id (.inr (hs id off n e))) (by rw[zZ,yA];omega) fun z h3 hz He f3=>?_
  have eO:Fr h h3 fun _=>False:=cu.trans (f3.mono fun j ⟨off,n,e⟩=>.inr (hs j off n e))
  simp only[eP.n6,aR,w2]
  refine step (i+1,z) _ h3 (by simp only;omega) ⟨rfl,by simp only;omega,eO,?_,fun id off n e=>zR cu.next (He id off n e)⟩
  rw[fG,List.map_append]
  exact hz
 ·have df:¬(i:Int)<y.1.args.length:=by omega
  have e:i=y.1.args.length:=by omega
  rw[e,List.take_length]at hx
  have l6:=px.bp f1
  simp only[zK df,eP.n9,ao,zE,zD,zC,zH,zV,eP.n5,al,aF,ve,aB,zG,au,zA,zB,ah,zN,zO]
  refine dN (f1.bQ ow) rfl fun _=>?_
  refine⟨TW TQ n0 h1,fun id hs _=>hW id (TW.back (TW.bJ f1) hs),hA h1 _ _ y.1.name _ x5 w pl place xp xo l l6 (rt.bp f1) hx.fl (GZ px.x hs) ?_ (fun _ h=>h) ?_ ?_⟩
  ·rcases hu with⟨u1,_⟩ |⟨jj,d,u1,u2,u3,u4,_⟩
   ·exact .inl u1
   ·exact .inr ⟨jj,d,u1,u2,u3,by simpa using u4⟩
  ·intro e h2 hb hp f2
   simp only[dR,zT,eP.n4,ao,zD,zF,zC,zI,eP.n3]
   exact he e h2 hb hp (TW.trans (TW.bJ f1) f2)
  ·intro l2 ni qF nZ h2 hb gf f2
   simp only[dR,zS,eP.n4,ao,zE,zD,zC,zH]
   exact hk l2 ni qF nZ h2 hb gf (TW.trans (TW.bJ f1) f2)
end
theorem GB.inv{bk:Bk}{k:Nat}{ps:List ByteArray}{r:Row}{l:List Row}(h:GB bk k ps (r::l)):(0<=r.rows/\r.rows<=l.length)/\GB bk k ps (l.drop r.rows.toNat)/\((r.kind=aK/\GB bk k ps (l.take r.rows.toNat))\/(r.kind≠aK/\zw bk k r)):=by
 cases h with
 |Xt h0 h1 h2 h3 h4=>exact⟨by omega,by rw[h1];exact h4,.inr ⟨by rw[h0];decide,h2⟩⟩
 |Xy h0 h1 h2 h3=>exact⟨h1,h3,.inl ⟨h0,h2⟩⟩
section
variable {n0 p:Nat} {xr:AV} {bk:Bk} {ids:List Nat} {qm bm gm:Nat} {rs:List (Row×AV)} {k:Nat}
theorem NS(sc:SC bk rs)(hA:BI n0 p xr bk ids qm bm gm rs k)(n:Nat):Jw n0 p xr bk ids qm bm gm rs k n:=by
 induction n using Nat.strongRecOn with
 |ind n ih=>
 intro h M R a env mb w pl place xp xo l ps px rt hn om hg hM he hk
 apply eP.aI
 unfold eP.dH
 refine cW rfl fun vw h1 f1 Ua ow=>?_
 unfold eP.cX eP.cV
 have hlen:=rt.n
 refine bX (ι:=Nat×OL×Int×AV×AV) (fun i v h'=>v=[.ptr p 0,I (a+n),.mp mb,I place,.ptr vw 0,I (a+(n-i.1:Nat):Int)]/\i.1<=n/\PX n0 h' p xr bk ids qm bm gm i.2.1 i.2.2.1 i.2.2.2.1 i.2.2.2.2/\GB bk k ps (sg rs (a+(n-i.1)) i.1)/\h'.obj vw=some (aO (qC w) 3 100) /\
  bF bk (rs.map (·.1)) k env w place (sg rs (a+(n-i.1)) i.1) i.2.1=bF bk (rs.map (·.1)) k env w place (sg rs a n) l/\Fr h h' (TW TQ n0 h)) (fun i=>i.1) (n,l,pl,xp,xo) ⟨by simp,zU _,px.bp f1,by simpa using hg,ow,by simp,TW.bJ f1⟩ ?_
 rintro K ⟨m,l1,AB,z_,u7⟩ v h2 ⟨rfl,hm,gf,qf,O6,cJ,f2⟩ step
 simp only at hm gf qf cJ step
 have Aw:=rt.vE f2
 have Kp:h2.obj mb=some (ze env):=TW.obj f2 om rfl
 have Ho:∀{h3:AH},Fr h h3 (TW TQ n0 h)->∀id,TW TQ n0 h3 id\/h3.next<=id->(M id\/h.next<=id):=fun{h3} f id hid=>hid.elim (fun hid=>(TW.back f hid).elim (fun h=>.inl (hM id h)) .inr) (fun hid=>.inr (zR f.next hid))
 unfold eP.cn
 simp only[zN,zO,eP.cN,ba]
 cases m with
 |zero=>
  have e1:decide ((a:Int)+(n-0:Nat)<a+n)=false:=by simp
  rw[If,Dz]at cJ
  simp only[e1,eP.cq,ao,zE,zD,zC,zH,zV,eP.n1]
  simpa using hk l1 AB z_ u7 h2 cJ.symm gf f2
 |succ m=>
  obtain⟨j,hj⟩:∃j,j=a+(n-(m+1)):=⟨_,rfl⟩
  have ej:(a:Int)+(n-(m+1):Nat)=(j:Int):=by omega
  have e1:decide ((j:Int)<a+n)=true:=by simp;omega
  rw[<-hj]at cJ qf
  obtain⟨y,hy⟩:∃y,rs[j]?=some y:=⟨rs[j]'(by omega),zJ _⟩
  rw[Ie hy]at cJ qf
  rw[BB]at cJ
  obtain⟨⟨b0,b1⟩,gd,gk⟩:=qf.inv
  rw[As (by omega)]at b1
  obtain⟨kk,kF⟩:∃kk:Nat,y.1.rows=kk:=⟨y.1.rows.toNat,by omega⟩
  have rT:kk<=m:=by omega
  rw[kF,zY,pf rT,pg]at cJ
  rw[kF,zY,pf rT]at gk
  rw[kF,zY,pg]at gd
  have w1:∀x:Int,0<=x/\x<=1000000000->IntKind.i64.wrap x=x:=fun x hx=>aL (by omega) (by omega)
  simp only[e1,ej,eP.cq,ao,zD,zF,zC,zI,eP.cj,aT,al,aF,gf.p,aB,zG,zA,ah]
  refine hZ Aw.r eF (Aw.one hy) hy rfl rfl (fun id hid=>Ho f2 id (.inr hid)) fun vr h3 f3 _ oR=>?_
  have eO:=TW.trans f2 (TW.bJ f3)
  have vR:=gf.bp f3
  have A3:∀l' ib jO jP h',bF bk (rs.map (·.1)) k env w place (sg rs (j+1+kk) (m-kk)) l'=bF bk (rs.map (·.1)) k env w place (sg rs a n) l->PX n0 h' p xr bk ids qm bm gm l' ib jO jP->Fr h3 h' (TW TQ n0 h3) ->
    eP.n2 (fun id=>M id\/h.next<=id) (aH Pg [.tmp 12] R) K (fun(i:Nat) (vs:List AV) (h:AH)=>if i=0 then eP.n1 (fun id=>M id\/h.next<=id) (aH Pg [.tmp 12] R) (aH Pg [.tmp 12] R) (fun _ _ _=>False) (fun v h=>R (.bV v) h) h else False) (fun v h=>R (.bV v) h) (.ptr p 0) (I (a+n)) (.mp mb) (I place) (.ptr vw 0) (I j) h':=fun l' ib jO jP h' tP J0 f'=>by
   have kl:=TW.trans eO f'
   simp only[eP.n2,aT,al,aF,J0.p,aB,zG,zA,ah]
   refine dC (k:=4) (rt.vE kl).r eF hy (by omega) rfl fun _=>?_
   rw[kF]
   simp only[aR,w1 (1+(kk:Int)) (by omega),w1 ((j:Int)+(1+kk)) (by omega)]
   have e8:j+1+kk=a+(n-(m-kk)):=by omega
   have e9:(j:Int)+(1+kk)=a+(n-(m-kk):Nat):=by omega
   rw[e8]at tP gd
   exact step (m-kk,l',ib,jO,jP) _ h' (by simp only;omega) ⟨by rw[<-e9],by simp only;omega,J0,gd,TW.obj f' (f3.bQ O6) rfl,tP,kl⟩
  have e4:(⟨#[114,101,112,101,97,116]⟩:ByteArray)=aK:=rfl
  simp only[eP.bW,al,aF,oR,aB,zG,au,zA,zB,ah,cU,e4]
  have Eu:=f3.bQ O6
  rcases gk with⟨g1,g2⟩ |⟨g1,g2⟩
  ·rw[zX g1]at cJ
   simp only[zL g1,eP.bT,ao,zD,zF,zC,zI]
   refine R5 (ih kk (by omega)) vR (rt.vE eO) (by omega) (TW.obj eO om rfl) Eu oR kF g2 (Ho eO) ?_ ?_ (sc.nm y (zP hy))
   ·intro e h4 hb hp f4
    rw[hb]at cJ
    simpa using he e h4 cJ.symm hp (TW.trans eO f4)
   ·intro l' ib jO jP h4 hb tH f4
    rw[hb]at cJ
    exact A3 l' ib jO jP h4 cJ tH f4
  ·rw[zW g1]at cJ
   simp only[zK g1,eP.bT,ao,zE,zD,zC,zH]
   refine R4 hA vR (rt.vE eO) hy (TW.obj eO om rfl) Eu oR g2 (Ho eO) ?_ ?_
   ·intro e h4 hb hp f4
    rw[hb]at cJ
    simpa using he e h4 cJ.symm hp (TW.trans eO f4)
   ·intro l' ib jO jP h4 hb tH f4
    rw[hb]at cJ
    exact A3 l' ib jO jP h4 cJ tH f4
end
end
section
open Go.Ab
attribute [-simp] aN aD
section
variable {n0 p:Nat} {xr:AV} {bk:Bk} {ids:List Nat} {qm bm gm:Nat} {rs:List (Row×AV)} {k:Nat}
theorem GR{bk:Bk}{L:List Row}{nm:ByteArray}{qs:List Int}{w:jU}{pl:Int}{l:OL}(h:hH bk.ds nm=none):jK bk L k nm qs w pl l=kX l (mi 1 nm qs 0 w) pl:=by
 unfold jK
 rw[I8 h]
theorem GQ{bk:Bk}{L:List Row}{d:dO}{j:Nat}{qs:List Int}{w:jU}{pl:Int}{l:OL}(a:mD bk)(hd:bk.ds[j]?=some d)(hj:j<k):jK bk L k d.name qs w pl l=if d.ops=0 then .ok l else bF bk L j (d.params.zip qs) w pl (w8 L d) l:=by
 unfold jK
 rw[NL a hd]
 simp only[hd,zX hj]
theorem LP(sc:SC bk rs)(hB:∀j n,j<k->Jw n0 p xr bk ids qm bm gm rs j n):BI n0 p xr bk ids qm bm gm rs k:=by
 intro h M R nm qs xq w pl place xp xo l px rt hq sep DS hM he hk
 apply lS.aI
 unfold lS.bg
 refine cW rfl fun vw h1 f1 Ua ow=>?_
 have l6:=px.bp f1
 have De:∀{h3:AH},Fr h h3 (TW TQ n0 h)->∀id,TW TQ n0 h3 id->(M id\/h.next<=id):=fun{h3} f id hid=>(TW.back f hid).elim (fun h=>.inl (hM id h)) .inr
 simp only[lS.aZ,aT,al,aF,l6.p,aB,zG,zA,zB,ah]
 refine ir (enc:=Sb) jD z87 l6.m.g fun _=>?_
 rcases DS with DS |⟨j,d,hj,hd,Db,hlen⟩
 ·rw[GR DS]at he hk
  rcases nG (n:=nm) l6.m.len with⟨e1,_⟩ |⟨k',d',id,_,e2,_,_⟩
  ·rw[e1]
   simp only[gu,zV,dx,zA,zB,ah,lS.bj,dR,zT,lS.bn,ao,zD,zF,zC,zI,lS.a_]
   refine⟨[I 1,Sb nm,xq,I 0,B false,U 0,U 0],?_,?_⟩
   ·simp[dS,putCells,eJ,pz,hq.one.2]
   ·refine dN ow rfl fun _=>?_
    refine⟨TW TQ n0 h1,fun id hs _=>De (TW.bJ f1) id hs,Ek l6 (hq.bp f1) sep (fun _ h=>h) ?_ ?_⟩
    ·intro h2 hb hp f2
     simpa using he _ h2 hb hp (TW.trans (TW.bJ f1) f2)
    ·intro l' ib jO jP h2 hb gf f2
     simpa using hk l' ib jO jP h2 hb gf (TW.trans (TW.bJ f1) f2)
  ·rw[DS]at e2;cases e2
 ·subst Db
  rw[GQ sc.bf.i hd hj]at he hk
  obtain⟨id,i1,i2,xd,od,hxd⟩:=B6 l6.m sc.bf.i hd
  rw[i2]
  simp only[gu,zV,dx,zA,zB,ah,lS.bj,dR,zS,lS.bn,ao,zE,zD,zC,zH,lS.aQ,aT,al,aF,od,aB,zG,dD]
  by_cases k1:d.ops=0
  ·rw[zX k1]at hk
   have iu:(d.ops==0)=true:=by simp[k1]
   simp only[iu,lS.aU,ao,zD,zF,zC,zI,lS.aP]
   simpa using hk l pl xp xo h1 rfl l6 (TW.bJ f1)
  ·rw[zW k1]at he hk
   have iu:(d.ops==0)=false:=by simpa using k1
   simp only[iu,lS.aU,ao,zE,zD,zC,zH,lS.n9]
   refine zf (enc:=Sb) fun mb h2 Kp Yg f2=>?_
   have cu:=f1.bO f2
   have XL:=f2.bQ od
   have M8:bw nI 1 9 h2 xd d.params:=hxd.bJ f2 fun _ _ h=>h
   simp only[lS.n8,aT,al,aF,XL,aB,zG,zA,zB,ah,M8.fl.len.1,M8.fl.len.2,zH]
   have jH:=(sc.bf.i.ok.ds d (zP hd)).1
   have UC:=(sc.bf.a d (zP hd)).2
   have X_:cf di 1 3 h2 xq qs:=hq.bp cu
   unfold lS.n7
   refine bX (ι:=Nat) (fun i v h'=>v=[.ptr p 0,xq,I place,.ptr vw 0,.ptr id 0,.mp mb,xd,I d.params.length,I i]/\i<=d.params.length/\Fr h2 h' (·=mb)/\h'.obj mb=some (ze ((d.params.zip qs).take i))) (fun i=>d.params.length-i) 0 ⟨rfl,by omega,Fr.refl,by rw[List.take_zero];exact Kp⟩ ?_
   rintro K i v h3 ⟨rfl,hi,f3,Ev⟩ step
   have dA:∀{x:Nat}{o:AO},h2.obj x=some o->o.ty≠157->h3.obj x=some o:=fun ho cC=>f3.obj ho (fun e=>by subst e;rw[Kp]at ho;cases ho;exact cC rfl)
   have ZP:cf nI 1 9 h3 xd d.params:=M8.fl.fr f3 fun x o ho ht e=>by subst e;rw[Kp]at ho;cases ho;exact absurd (ht rfl) (show(157:Nat)≠9 by decide)
   have hq3:cf di 1 3 h3 xq qs:=X_.fr f3 fun x o ho ht e=>by subst e;rw[Kp]at ho;cases ho;exact absurd (ht rfl) (show(157:Nat)≠3 by decide)
   have fz:Fr h h3 fun _=>False:=cu.trans (f3.mono fun x e=>.inr (by subst e;exact zR f1.next Yg))
   simp only[lS.cn,zN,zO,lS.n6,ba]
   by_cases aM:i<d.params.length
   ·have dh:(i:Int)<d.params.length:=by omega
    have g1:d.params[i]?=some d.params[i]:=zJ aM
    have g2:qs[i]?=some (qs[i]'(by omega)):=zJ _
    have tk:(d.params.zip qs).take (i+1)=(d.params.zip qs).take i++[(d.params[i],qs[i]'(by omega))]:=by
     rw[List.take_add_one,show(d.params.zip qs)[i]?=some (d.params[i],qs[i]'(by omega)) from List.getElem?_zip_eq_some.2 ⟨g1,g2⟩];rfl
    have mj:eu d.params[i] (((d.params.zip qs).take i).map fun x=>(x.1,I x.2))=none:=by
     have hm:gB d.params[i] (d.params.take i)=false:=by
      cases hx:gB d.params[i] (d.params.take i) with
      |false=>rfl
      |true=>rw[show FI d.params=true from Ch g1 hx]at UC;cases UC
     have h5:=lz (n:=d.params[i]) (l:=((d.params.zip qs).take i).map fun x=>(x.1,I x.2))
     have h6:(((d.params.zip qs).take i).map fun x=>(x.1,I x.2)).map (·.1)=d.params.take i:=by
      rw[List.map_map]
      show((d.params.zip qs).take i).map (fun x=>x.1)=_
      rw[List.map_take,List.map_fst_zip (by omega)]
     rw[h6,hm]at h5
     cases hy:eu d.params[i] (((d.params.zip qs).take i).map fun x=>(x.1,I x.2)) with
     |none=>rfl
     |some _=>rw[hy]at h5;cases h5
    have w1:IntKind.i64.wrap ((i:Int)+1)=((i+1:Nat):Int):=by rw[aL (by omega) (by omega)];simp
    simp only[zL dh,lS.n5,ao,zD,zF,zC,zI,lS.n4]
    refine ju ZP (fun _=>rfl) g1 rfl fun _=>?_
    simp only[lS.n3]
    refine ju hq3 (fun _=>rfl) g2 rfl fun _=>?_
    refine uq (enc:=Sb) (n:=d.params[i]) jD (.inr (zR f1.next Yg)) Ev mj fun h4 om4 f4=>?_
    simp only[lS.n2,aR,w1]
    refine step (i+1) _ h4 (by omega) ⟨rfl,by omega,f3.trans (f4.mono fun _ h=>.inl h),?_⟩
    rw[tk,om4,ze,List.map_append]
    rfl
   ·have df:¬(i:Int)<d.params.length:=by omega
    have e:i=d.params.length:=by omega
    rw[e,List.take_of_length_le (by rw[List.length_zip];omega)]at Ev
    obtain⟨a,n,ha,hn,han,PR⟩:=sc.dk j d hd
    have vR:=px.bp fz
    have hbo:w8 (rs.map (·.1)) d=sg rs a n:=by
     unfold w8
     rw[ha,hn,At]
     congr 1
     omega
    rw[hbo]at he hk
    have od3:=dA XL (show(127:Nat)≠157 by decide)
    have Eu:=dA (f2.bQ ow) (show(100:Nat)≠157 by decide)
    simp only[zK df,lS.n5,ao,zE,zD,zC,zH,zV,lS.n1,zN,zO,aT,al,aF,od3,aB,zG,zA,zB,ah,ha,hn]
    refine dN Eu rfl fun _=>?_
    refine⟨TW TQ n0 h3,fun id hs _=>De (TW.bJ fz) id hs,hB j n hj h3 _ _ a _ mb w pl place xp xo l d.params vR (rt.bp fz) (by simpa using han) Ev (by rw[At];exact PR) (fun _ h=>h) ?_ ?_⟩
    ·intro e h4 hb hp f4
     simpa using he e h4 hb hp (TW.trans (TW.bJ fz) f4)
    ·intro l' ib jO jP h4 hb tH f4
     simpa using hk l' ib jO jP h4 hb tH (TW.trans (TW.bJ fz) f4)
theorem Je(sc:SC bk rs):BI n0 p xr bk ids qm bm gm rs k:=by
 induction k using Nat.strongRecOn with
 |ind k ih=>exact LP sc fun j n hj=>NS sc (ih j hj) n
end
end
section
open Go.Ab
attribute [-simp] aN aD
theorem l9{t:TypeId}{c:Bool}{x y:Int}{K:AV->Prop}:aa Pg .and t c (U x) (U y) K=K (U (nf x y)):=by
 simp[aa,nf]
theorem MJ{t:TypeId}{c:Bool}{x y:Int}{K:AV->Prop}:aa Pg .or t c (U x) (U y) K=K (U (G8 x y)):=by
 simp[aa,G8]
theorem vV{t:TypeId}{c:Bool}{x y:Int}{K:AV->Prop}:aa Pg .sub t c (U x) (U y) K=K (U (IntKind.u64.wrap (x-y))):=by
 simp[aa]
theorem vW{t:TypeId}{c:Bool}{x y:Int}{K:AV->Prop}:aa Pg .neq t c (U x) (U y) K=K (B (x != y)):=by
 simp[aa]
theorem Tl{n:Int}{K:AV->Prop}:l8 (some .u64) (I n) K=K (U (IntKind.u64.wrap n)):=rfl
def V5(n0 p:Nat)(xr:AV)(bk:Bk)(ids:List Nat)(qm bm gm:Nat)(rs:List (Row×AV))(n:Nat):Prop:=
 ∀(h:AH)(M:Nat->Prop)(R:AE->AH->Prop)(a:Nat)(w:jU)(pl:Int)(xp xo:AV)(l:OL),PX n0 h p xr bk ids qm bm gm l pl xp xo->RT h xr rs->a+n<=rs.length->GO bk (sg rs a n)->(∀id,TW TQ n0 h id->M id) ->
  (∀e h',jS bk (rs.map (·.1)) w (sg rs a n) l=.error e->PE n0 xr bk ids qm bm gm h' p e->Fr h h' (TW TQ n0 h)->R (.ret (B false)) h') ->
  (∀l' ib jO jP h',jS bk (rs.map (·.1)) w (sg rs a n) l=.ok l'->PX n0 h' p xr bk ids qm bm gm l' ib jO jP->Fr h h' (TW TQ n0 h)->R (.ret (B true)) h') ->
  ay Pg 38 [.ptr p 0,I a,I (a+n),.agg (qC w)] h M R
section
variable {W:Nat->Prop} {QR QN:VK} {QE:Nat->VK} {QP:AV->AH->Prop} {h:AH} {n0 p vw vr:Nat} {xr xp xo x2:AV} {bk:Bk} {ids:List Nat} {qm bm gm:Nat} {l:OL} {pl:Int} {rs:List (Row×AV)} {w:jU} {y:Row×AV} {j kk:Nat} {one:Except Int OL}
structure DK (W:Nat->Prop) (QR QN:VK) (QE:Nat->VK) (QP:AV->AH->Prop) (h:AH) (n0 p vw vr:Nat) (xr xp xo x2:AV) (bk:Bk) (ids:List Nat) (qm bm gm:Nat) (l:OL) (pl:Int) (rs:List (Row×AV)) (w:jU) (y:Row×AV) (j:Nat) (one:Except Int OL):Prop where
 sc:SC bk rs
 px:PX n0 h p xr bk ids qm bm gm l pl xp xo
 rt:RT h xr rs
 hy:rs[j]?=some y
 ow:h.obj vw=some (aO (qC w) 3 100)
 dq:h.obj vr=some (aO (au y) 6 46)
 hW:∀id,TW TQ n0 h id\/h.next<=id->W id
 he:∀e h',one=.error e->PE n0 xr bk ids qm bm gm h' p e->Fr h h' (TW TQ n0 h)->QR [B false] h'
 hk:∀l' ib jO jP h',one=.ok l'->PX n0 h' p xr bk ids qm bm gm l' ib jO jP->Fr h h' (TW TQ n0 h)->dw.n2 W QR QN QE QP (.ptr p 0) x2 (.ptr vw 0) (I j) h'
theorem xU(k:DK W QR QN QE QP h n0 p vw vr xr xp xo x2 bk ids qm bm gm l pl rs w y j one){e:Int}{h':AH}(h1:one=.error e)(h2:PE n0 xr bk ids qm bm gm h' p e)(h3:Fr h h' (TW TQ n0 h)):dw.n5 W QR QN QE QP (.ptr p 0) x2 (.ptr vw 0) (I j) (B false) h':=by
 simp only[dw.n5,dR,zT,dw.n4,ao,zD,zF,zC,zI,dw.n3]
 exact k.he e h' h1 h2 h3
theorem uZ(k:DK W QR QN QE QP h n0 p vw vr xr xp xo x2 bk ids qm bm gm l pl rs w y j one){l':OL}{ib:Int}{jO jP:AV}{h':AH}(h1:one=.ok l')(h2:PX n0 h' p xr bk ids qm bm gm l' ib jO jP)(h3:Fr h h' (TW TQ n0 h)):dw.n5 W QR QN QE QP (.ptr p 0) x2 (.ptr vw 0) (I j) (B true) h':=by
 simp only[dw.n5,dR,zS,dw.n4,ao,zE,zD,zC,zH]
 exact k.hk l' ib jO jP h' h1 h2 h3
theorem Sj(hB:V5 n0 p xr bk ids qm bm gm rs kk)(k:DK W QR QN QE QP h n0 p vw vr xr xp xo x2 bk ids qm bm gm l pl rs w y j (iA (jS bk (rs.map (·.1)) w (sg rs (j+1) kk)) y.1.num.toNat l))(hj:j+1+kk<=rs.length)(KY:y.1.rows=kk)(hg:GO bk (sg rs (j+1) kk)) :
  dw.aZ W QR QN QE QP (.ptr p 0) x2 (.ptr vw 0) (I j) (.ptr vr 0) (B true) h:=by
 unfold dw.aZ dw.bj
 have hlen:=k.rt.n
 have qA:=k.sc.nm y (zP k.hy)
 refine bX (ι:=(Nat×Bool)×OL×Int×AV×AV) (fun i v h'=>v=[.ptr p 0,x2,.ptr vw 0,I j,.ptr vr 0,B i.1.2,I (y.1.num.toNat-i.1.1:Nat)]/\i.1.1<=y.1.num.toNat/\PX n0 h' p xr bk ids qm bm gm i.2.1 i.2.2.1 i.2.2.2.1 i.2.2.2.2 /\
  (i.1.2=true->iA (jS bk (rs.map (·.1)) w (sg rs (j+1) kk)) i.1.1 i.2.1=iA (jS bk (rs.map (·.1)) w (sg rs (j+1) kk)) y.1.num.toNat l) /\
  (i.1.2=false->iA (jS bk (rs.map (·.1)) w (sg rs (j+1) kk)) y.1.num.toNat l=.error i.2.2.1)/\Fr h h' (TW TQ n0 h)) (fun i=>i.1.1) ((y.1.num.toNat,true),l,pl,xp,xo) ⟨by simp,zU _,k.px,fun _=>rfl,(fun h=>by cases h),TW.bJ Fr.refl⟩ ?_
 rintro K ⟨⟨c,I3⟩,l1,AB,z_,u7⟩ v h1 ⟨rfl,hc,l6,cJ,wG,f1⟩ step
 simp only at hc l6 cJ wG step
 have ve:h1.obj vr=some (aO (au y) 6 46):=TW.obj f1 k.dq rfl
 have G7:h1.obj vw=some (aO (qC w) 3 100):=TW.obj f1 k.ow rfl
 have fin:(I3=true->iA (jS bk (rs.map (·.1)) w (sg rs (j+1) kk)) y.1.num.toNat l=.ok l1)->dw.n5 W QR QN QE QP (.ptr p 0) x2 (.ptr vw 0) (I j) (B I3) h1:=fun hf=>by
  cases I3 with
  |true=>exact uZ k (hf rfl) l6 f1
  |false=>exact xU k (wG rfl) ⟨_,_,_,l6⟩ f1
 simp only[dw.fI,zN,zO,dw.bn,al,aF,ve,aB,zG,au,zA,zB,ah,ba]
 cases c with
 |zero=>
  have e1:decide (((y.1.num.toNat-0:Nat):Int)<y.1.num)=false:=by simp;omega
  simp only[iA]at cJ
  simp only[e1,dw.a_,dl,zS,zE,zD,zC,zH,dw.aQ,cD,if_false,dw.aU,ao,zV,zN,zO]
  exact fin fun hf=>(cJ hf).symm
 |succ c=>
  have e1:decide (((y.1.num.toNat-(c+1):Nat):Int)<y.1.num)=true:=by simp;omega
  simp only[e1,dw.a_,dl,zS,zD,zF,zC,zI,dw.aQ,cD,zV,dw.aU]
  cases I3 with
  |false=>
   simp only[ao,zE,zD,zC,zH,zV,zN,zO]
   exact fin (fun h=>by cases h)
  |true=>
   have w1:∀x:Int,0<=x/\x<=1000000000->IntKind.i64.wrap x=x:=fun x hx=>aL (by omega) (by omega)
   have cJ:=cJ rfl
   simp only[iA]at cJ
   simp only[ao,zD,zF,zC,zI,dw.aP,aT,al,aF,l6.p,aB,zG,Nat.reduceAdd,zA,zB,ah,l6.pY.1,l6.pY.2,zH,dw.n9,ve,au,KY,aR,w1 ((j:Int)+1) (by omega),w1 ((j:Int)+1+kk) (by omega)]
   refine dN G7 rfl fun _=>?_
   have w3:IntKind.i64.wrap (((y.1.num.toNat-(c+1):Nat):Int)+1)=((y.1.num.toNat-c:Nat):Int):=by rw[aL (by omega) (by omega)];omega
   have YV:∀(xK:Bool) l2 ni qF nZ h2,PX n0 h2 p xr bk ids qm bm gm l2 ni qF nZ->Fr h h2 (TW TQ n0 h) ->
     (xK=true->(if l2.length=l1.length then Except.ok l2 else iA (jS bk (rs.map (·.1)) w (sg rs (j+1) kk)) c l2)=iA (jS bk (rs.map (·.1)) w (sg rs (j+1) kk)) y.1.num.toNat l) ->
     (xK=false->iA (jS bk (rs.map (·.1)) w (sg rs (j+1) kk)) y.1.num.toNat l=.error ni) ->
     dw.n8 W QR K (fun(i:Nat) (vs:List AV) (h:AH)=>if i=3 then dw.n5 W QR QN QE QP (vs.getD 0 ab) (vs.getD 1 ab) (vs.getD 2 ab) (vs.getD 3 ab) (vs.getD 4 ab) h else if i=2 then dw.n5 W QR QN QE QP (vs.getD 0 ab) (vs.getD 1 ab) (vs.getD 2 ab) (vs.getD 3 ab) (vs.getD 4 ab) h else if i=1 then dw.n2 W QR QN QE QP (vs.getD 0 ab) (vs.getD 1 ab) (vs.getD 2 ab) (vs.getD 3 ab) h else QE i vs h) QP (.ptr p 0) x2 (.ptr vw 0) (I j) (.ptr vr 0) (B xK) (I (y.1.num.toNat-(c+1):Nat)) (I l1.length) h2:=fun xK l2 ni qF nZ h2 gf f2 hq hf=>by
    simp only[dw.n8,aT,al,aF,gf.p,aB,zG,Nat.reduceAdd,zA,zB,ah,gf.pY.1,gf.pY.2,zH,dD]
    by_cases k1:l2.length=l1.length
    ·have iu:((l2.length:Int)==(l1.length:Int))=true:=by rw[k1];simp
     simp only[iu,dw.n7,ao,zD,zF,zC,zI,zV,zN,zO]
     cases xK with
     |true=>
      have:=hq rfl
      rw[zX k1]at this
      exact uZ k this.symm gf f2
     |false=>exact xU k (hf rfl) ⟨_,_,_,gf⟩ f2
    ·have iu:((l2.length:Int)==(l1.length:Int))=false:=by simp;omega
     simp only[iu,dw.n7,ao,zE,zD,zC,zH,dw.n6,aR,w3]
     refine step ((c,xK),l2,ni,qF,nZ) _ h2 (by simp only;omega) ⟨rfl,by simp only;omega,gf,fun hh=>?_,hf,f2⟩
     have:=hq hh
     rwa [zW k1]at this
   refine⟨TW TQ n0 h1,fun id hs _=>k.hW id (TW.back f1 hs),hB h1 _ _ (j+1) w AB z_ u7 l1 l6 (k.rt.vE f1) hj hg (fun _ h=>h) ?_ ?_⟩
   ·intro e h2 hb hp f2
    rw[hb]at cJ
    obtain⟨l2,qF,nZ,gf⟩:=hp
    exact YV false l2 e qF nZ h2 gf (TW.trans f1 f2) (fun h=>by cases h) (fun _=>cJ.symm)
   ·intro l2 ni qF nZ h2 hb gf f2
    rw[hb]at cJ
    exact YV true l2 ni qF nZ h2 gf (TW.trans f1 f2) (fun _=>cJ) (fun h=>by cases h)
end
end
section
open Go.Ab
attribute [-simp] aN aD
theorem Vm{xq:AV}(hq:cy xq=some [xq]){k b:Int}:dS (fun i=>[(0,1),(1,1),(2,1),(3,1),(4,1),(5,1),(6,1)][i]?) ([Value.int .i64 0,.string ⟨#[]⟩,.slice none 0 0,.int .i64 0,.bool false,.int .u64 0,.int .u64 0].map .sc) [(0,I k),(2,xq),(3,I b)]=some [I k,Sb ⟨#[]⟩,xq,I b,B false,U 0,U 0]:=by
 simp[dS,putCells,eJ,pz,hq]
theorem Vl{xq:AV}(hq:cy xq=some [xq]){k:Int}:dS (fun i=>[(0,1),(1,1),(2,1),(3,1),(4,1),(5,1),(6,1)][i]?) ([Value.int .i64 0,.string ⟨#[]⟩,.slice none 0 0,.int .i64 0,.bool false,.int .u64 0,.int .u64 0].map .sc) [(0,I k),(2,xq)]=some [I k,Sb ⟨#[]⟩,xq,I 0,B false,U 0,U 0]:=by
 simp[dS,putCells,eJ,pz,hq]
theorem xl{K:AV->Nat->Prop}{cs:List AV}{vn sz:Nat}{ty:TypeId}{h:AH}(ho:h.obj vn=some (aO cs sz ty))(hc:cs.length=sz)(hK:K (.agg cs) vn):ai (some true) (some sz) (.ptr vn 0) h K:=by
 simp only[p5,ho,nS,zG,List.drop_zero]
 refine⟨by omega,?_⟩
 rw[List.take_of_length_le (by omega)];exact hK
theorem QM{α:Type}{f:α->List AV}{sz:Nat}{ty:TypeId}{h:AH}{x:AV}{a:α}{r:List α}(hl:cf f sz ty h x (a::r)):∃id,x=.sl id 0 (a::r).length/\cf f sz ty h (.sl id 0 1) [a]:=by
 rcases hl with⟨_,e⟩ |⟨_,_,_,e⟩ |⟨id,rest,ro,nL,e1,e2,e3⟩
 ·cases e
 ·cases e
 ·exact⟨id,e1,.inr (.inr ⟨id,r.flatMap f++rest,ro,nL,rfl,e2,by rw[e3];simp⟩)⟩
theorem Rw{l:List js}{a:Arg}(hs:∀r∈l,1<=r.size/\0<=r.from_/\r.from_+r.size<=bq l)(ht:bq l<=64)(h:jT l a=0):∃g,fA l a.name=some g/\IntKind.i64.wrap (g.from_+a.index)=kB l a:=by
 obtain⟨g,hg,i0,i1⟩:=Qr h
 have:=hs g (List.mem_of_find?_eq_some hg)
 refine⟨g,hg,?_⟩
 unfold kB
 rw[hg]
 exact aL (by omega) (by omega)
section
variable {W:Nat->Prop} {QR QN:VK} {QE:Nat->VK} {QP:AV->AH->Prop} {h:AH} {n0 p vw vr:Nat} {xr xp xo x2:AV} {bk:Bk} {ids:List Nat} {qm bm gm:Nat} {l:OL} {pl:Int} {rs:List (Row×AV)} {w:jU} {y:Row×AV} {j kk:Nat} {one:Except Int OL}
theorem DK.loc(k:DK W QR QN QE QP h n0 p vw vr xr xp xo x2 bk ids qm bm gm l pl rs w y j one){M:Nat->Prop}{R:AE->AH->Prop}{x1:AV}{args:List Arg}(ha:cf Arg.enc 2 67 h x1 args)(hl:args.length<=100000000)(Ba:∀a∈args,jT bk.qs a=0)
  (hR:∀y h',bw di 1 3 h' y (args.map (kB bk.qs))->Sep xp y->Fr h h' (fun _=>False)->R (.ret y) h'):ay Pg 70 [.ptr p 0,x1] h M R:=
 Iv k.px.p rfl k.px.m k.sc.bf.i.ok ha hl Ba fun y h' h1 h2 h3=>hR y h' h1 (GZ k.px.x h2) h3
theorem Si(k:DK W QR QN QE QP h n0 p vw vr xr xp xo x2 bk ids qm bm gm l pl rs w y j (jK bk (rs.map (·.1)) bk.ds.length y.1.name (y.1.args.map (kB bk.qs)) w y.1.place l))(hu:zw bk bk.ds.length y.1)(Ba:∀a∈y.1.args,jT bk.qs a=0) :
  dw.bD W QR QN QE QP (.ptr p 0) x2 (.ptr vw 0) (I j) (.ptr vr 0) h:=by
 obtain⟨ha,hl⟩:=k.rt.a y (zP k.hy)
 unfold dw.bD
 refine⟨fun i=>if i=7 then vw else vr,fun i _=>by show h.obj (if i=7 then vw else vr)≠none;split<;>simp[k.ow,k.dq],?_⟩
 simp only[al,aF,k.dq,aB,zG,au,zA,zB,ah]
 refine⟨by simp,?_⟩
 refine xl k.ow rfl ⟨rfl,⟨by simp,?_⟩⟩
 refine⟨fun _=>False,fun _ h=>h.elim,k.loc ha hl Ba fun z h1 hz EU f1=>?_⟩
 refine⟨TW TQ n0 h1,fun id hs _=>k.hW id (TW.back (TW.bJ f1) hs),Je (k:=bk.ds.length) k.sc h1 _ _ y.1.name _ z w pl y.1.place xp xo l (k.px.bp f1) (k.rt.bp f1) hz.fl EU ?_ (fun _ h=>h) ?_ ?_⟩
 ·rcases hu with⟨u1,_⟩ |⟨jj,d,u1,u2,u3,u4,_⟩
  ·exact .inl u1
  ·exact .inr ⟨jj,d,u1,u2,u3,by simpa using u4⟩
 ·intro e h2 hb hp f2
  exact xU k hb hp (TW.trans (TW.bJ f1) f2)
 ·intro l2 ni qF nZ h2 hb gf f2
  exact uZ k hb gf (TW.trans (TW.bJ f1) f2)
theorem L3(k:DK W QR QN QE QP h n0 p vw vr xr xp xo x2 bk ids qm bm gm l pl rs w y j (kX l (mi 3 ByteArray.empty (y.1.args.map (kB bk.qs)) 0 w) y.1.place))(Ba:∀a∈y.1.args,jT bk.qs a=0) :
  dw.bT W QR QN QE QP (.ptr p 0) x2 (.ptr vw 0) (I j) (.ptr vr 0) h:=by
 obtain⟨ha,hl⟩:=k.rt.a y (zP k.hy)
 unfold dw.bT
 refine⟨fun i=>if i=6 then vw else vr,fun i _=>by show h.obj (if i=6 then vw else vr)≠none;split<;>simp[k.ow,k.dq],?_⟩
 simp only[al,aF,k.dq,aB,zG,au,zA,zB,ah]
 refine xl k.ow rfl ⟨rfl,⟨by simp,?_⟩⟩
 refine⟨fun _=>False,fun _ h=>h.elim,k.loc ha hl Ba fun z h1 hz EU f1=>?_⟩
 refine⟨_,Vl hz.fl.one.2,?_⟩
 refine⟨TW TQ n0 h1,fun id hs _=>k.hW id (TW.back (TW.bJ f1) hs),Ek (k.px.bp f1) hz.fl EU (fun _ h=>h) ?_ ?_⟩
 ·intro h2 hb hp f2
  exact xU k hb hp (TW.trans (TW.bJ f1) f2)
 ·intro l2 ni qF nZ h2 hb gf f2
  exact uZ k hb gf (TW.trans (TW.bJ f1) f2)
theorem On{a b:Arg}(sM:y.1.args=[a,b])(k:DK W QR QN QE QP h n0 p vw vr xr xp xo x2 bk ids qm bm gm l pl rs w y j (kX l (mi 2 ByteArray.empty [kB bk.qs a] (kB bk.bs b) w) y.1.place))(h0:jT bk.qs a=0)(h1:jT bk.bs b=0) :
  dw.bY W QR QN QE QP (.ptr p 0) x2 (.ptr vw 0) (I j) (.ptr vr 0) h:=by
 obtain⟨ha,hl⟩:=k.rt.a y (zP k.hy)
 rw[sM]at ha
 obtain⟨g,hg,w1⟩:=Rw k.sc.bf.i.ok.sb k.sc.bf.i.ok.tb.2 h1
 simp only[dw.bY,aT,al,aF,k.px.p,k.dq,aB,zG,au,zA,zB,ah]
 refine dC (i:=1) (k:=0) ha Arg.ci rfl (by omega) rfl fun _=>?_
 refine ir (enc:=Sb) jD z93 k.px.m.b fun _=>?_
 rw[kZ,hg]
 simp only[yB,gu,zE,if_false,uG]
 refine⟨_,rfl,?_⟩
 refine dC (i:=1) (k:=1) ha Arg.ci rfl (by omega) rfl fun _=>?_
 simp only[aR,w1]
 obtain⟨id,e1,aaO⟩:=QM ha
 unfold dw.bZ
 refine⟨fun i=>if i=8 then vw else vr,fun i _=>by show h.obj (if i=8 then vw else vr)≠none;split<;>simp[k.ow,k.dq],?_⟩
 simp only[al,aF,k.dq,aB,zG,au,zA,zB,ah]
 rw[e1]
 refine LD (n:=1) (by simp) ?_
 refine xl k.ow rfl ⟨rfl,⟨by simp,?_⟩⟩
 refine⟨fun _=>False,fun _ h=>h.elim,k.loc aaO (by simp) (fun c hc=>by have:=List.mem_singleton.1 hc;subst this;exact h0) fun z h1 hz EU f1=>?_⟩
 refine⟨_,Vm hz.fl.one.2,?_⟩
 refine⟨TW TQ n0 h1,fun id hs _=>k.hW id (TW.back (TW.bJ f1) hs),Ek (k.px.bp f1) hz.fl EU (fun _ h=>h) ?_ ?_⟩
 ·intro h2 hb hp f2
  exact xU k hb hp (TW.trans (TW.bJ f1) f2)
 ·intro l2 ni qF nZ h2 hb gf f2
  exact uZ k hb gf (TW.trans (TW.bJ f1) f2)
theorem VS{g:js}(hB:V5 n0 p xr bk ids qm bm gm rs kk)(lK:fA bk.bs y.1.name=some g)(k:DK W QR QN QE QP h n0 p vw vr xr xp xo x2 bk ids qm bm gm l pl rs w y j (match pU w g y.1.num with |none=>.ok l |some w'=>jS bk (rs.map (·.1)) w' (sg rs (j+1) kk) l))
  (hj:j+1+kk<=rs.length) (KY:y.1.rows=kk) (hg:GO bk (sg rs (j+1) kk)):dw.bG W QR QN QE QP (.ptr p 0) x2 (.ptr vw 0) (I j) (.ptr vr 0) h:=by
 have hlen:=k.rt.n
 simp only[dw.bG,aT,al,aF,k.px.p,k.dq,aB,zG,au,zA,zB,ah]
 refine ir (enc:=Sb) jD z93 k.px.m.b fun _=>?_
 rw[kZ,lK]
 simp only[yB,gu,zE,if_false,uG]
 have hs:=k.sc.bf.i.ok.sb g (List.mem_of_find?_eq_some lK)
 refine gH (cs:=[I g.from_,I g.size]) rfl rfl rfl rfl (fun id hid=>k.hW id (.inr hid)) fun v1 h1 f1 _ ov=>?_
 have ve:=f1.bQ k.dq
 have G7:=f1.bQ k.ow
 have b64:IntKind.u64.bits=64:=rfl
 have s0:0<=g.size:=by omega
 have hm:IntKind.u64.wrap (IntKind.u64.wrap (IntKind.u64.wrap (1*2^(min g.size.toNat 64))-1)*2^(min g.from_.toNat 64))=rL g:=rfl
 have hv:IntKind.u64.wrap (IntKind.u64.wrap y.1.num*2^(min g.from_.toNat 64))=valOf g y.1.num:=rfl
 simp only[dw.bE,al,aF,ov,aB,zG,zA,zB,ah,Eo,s0,zH,vV,hs.2.1,b64,hm,dw.bC,ve,au,Tl,hv,dw.bz,G7,l9,vW]
 unfold pU at k
 by_cases k1:nf w.value (rL g)=nf (valOf g y.1.num) w.cT
 ·rw[zW (by simpa using k1)]at k
  have iu:(nf w.value (rL g) != nf (valOf g y.1.num) w.cT)=false:=by simp[k1]
  have w1:∀x:Int,0<=x/\x<=1000000000->IntKind.i64.wrap x=x:=fun x hx=>aL (by omega) (by omega)
  simp only[iu,dw.bu,ao,zE,zD,zC,zH,dw.bg,aR,w1 ((j:Int)+1) (by omega),al,aF,ve,G7,aB,zG,au,zA,zB,ah,KY,w1 ((j:Int)+1+kk) (by omega),MJ]
  refine⟨qC ⟨true,G8 w.cT (rL g),G8 w.value (valOf g y.1.num)⟩,by simp[dS,putCells,eJ,uR],?_⟩
  refine⟨TW TQ n0 h1,fun id hs _=>k.hW id (TW.back (TW.bJ f1) hs),hB h1 _ _ (j+1) _ pl xp xo l (k.px.bp f1) (k.rt.bp f1) hj hg (fun _ h=>h) ?_ ?_⟩
  ·intro e h2 hb hp f2
   exact xU k hb hp (TW.trans (TW.bJ f1) f2)
  ·intro l2 ni qF nZ h2 hb gf f2
   exact uZ k hb gf (TW.trans (TW.bJ f1) f2)
 ·rw[zX k1]at k
  have iu:(nf w.value (rL g) != nf (valOf g y.1.num) w.cT)=true:=by simp[k1]
  simp only[iu,dw.bu,ao,zD,zF,zC,zI]
  exact k.hk l pl xp xo h1 rfl (k.px.bp f1) (TW.bJ f1)
end
end
section
open Go.Ab
attribute [-simp] aN aD
theorem GO.inv{bk:Bk}{r:Row}{l:List Row}(h:GO bk (r::l)):(0<=r.rows/\r.rows<=l.length)/\NZ bk r/\(r.kind=aK\/r.kind=c9->GO bk (l.take r.rows.toNat))/\GO bk (l.drop r.rows.toNat):=by
 cases h with |cons h0 h1 h2 h3=>exact⟨h0,h1,h2,h3⟩
section
variable {n0 p:Nat} {xr:AV} {bk:Bk} {ids:List Nat} {qm bm gm:Nat} {rs:List (Row×AV)}
theorem WT(sc:SC bk rs)(n:Nat):V5 n0 p xr bk ids qm bm gm rs n:=by
 induction n using Nat.strongRecOn with
 |ind n ih=>
 intro h M R a w pl xp xo l px rt hn hg hM he hk
 apply dw.aI
 unfold dw.gv
 refine cW rfl fun vw h1 f1 Ua ow=>?_
 unfold dw.gI dw.gg
 have hlen:=rt.n
 refine bX (ι:=Nat×OL×Int×AV×AV) (fun i v h'=>v=[.ptr p 0,I (a+n),.ptr vw 0,I (a+(n-i.1:Nat):Int)]/\i.1<=n/\PX n0 h' p xr bk ids qm bm gm i.2.1 i.2.2.1 i.2.2.2.1 i.2.2.2.2/\GO bk (sg rs (a+(n-i.1)) i.1)/\h'.obj vw=some (aO (qC w) 3 100) /\
  jS bk (rs.map (·.1)) w (sg rs (a+(n-i.1)) i.1) i.2.1=jS bk (rs.map (·.1)) w (sg rs a n) l/\Fr h h' (TW TQ n0 h)) (fun i=>i.1) (n,l,pl,xp,xo) ⟨by simp,zU _,px.bp f1,by simpa using hg,ow,by simp,TW.bJ f1⟩ ?_
 rintro K ⟨m,l1,AB,z_,u7⟩ v h2 ⟨rfl,hm,gf,qf,O6,cJ,f2⟩ step
 simp only at hm gf qf cJ step
 have Aw:=rt.vE f2
 have Ho:∀{h3:AH},Fr h h3 (TW TQ n0 h)->∀id,TW TQ n0 h3 id\/h3.next<=id->(M id\/h.next<=id):=fun{h3} f id hid=>hid.elim (fun hid=>(TW.back f hid).elim (fun h=>.inl (hM id h)) .inr) (fun hid=>.inr (zR f.next hid))
 unfold dw.cn
 simp only[zN,zO,dw.fp,ba]
 cases m with
 |zero=>
  have e1:decide ((a:Int)+(n-0:Nat)<a+n)=false:=by simp
  rw[If,xO]at cJ
  simp only[e1,dw.fq,ao,zE,zD,zC,zH,zV,dw.n1]
  simpa using hk l1 AB z_ u7 h2 cJ.symm gf f2
 |succ m=>
  obtain⟨j,hj⟩:∃j,j=a+(n-(m+1)):=⟨_,rfl⟩
  have ej:(a:Int)+(n-(m+1):Nat)=(j:Int):=by omega
  have e1:decide ((j:Int)<a+n)=true:=by simp;omega
  rw[<-hj]at cJ qf
  obtain⟨y,hy⟩:∃y,rs[j]?=some y:=⟨rs[j]'(by omega),zJ _⟩
  rw[Ie hy]at cJ qf
  rw[zq]at cJ
  obtain⟨⟨b0,b1⟩,go,gt,gd⟩:=qf.inv
  rw[As (by omega)]at b1
  obtain⟨kk,kF⟩:∃kk:Nat,y.1.rows=kk:=⟨y.1.rows.toNat,by omega⟩
  have rT:kk<=m:=by omega
  rw[kF,zY,pf rT,pg]at cJ
  rw[kF,zY,pf rT]at gt
  rw[kF,zY,pg]at gd
  have w1:∀x:Int,0<=x/\x<=1000000000->IntKind.i64.wrap x=x:=fun x hx=>aL (by omega) (by omega)
  simp only[e1,ej,dw.fq,ao,zD,zF,zC,zI,dw.gh,aT,al,aF,gf.p,aB,zG,zA,ah]
  refine hZ Aw.r eF (Aw.one hy) hy rfl rfl (fun id hid=>Ho f2 id (.inr hid)) fun vr h3 f3 _ oR=>?_
  have eO:=TW.trans f2 (TW.bJ f3)
  have vR:=gf.bp f3
  have Eu:=f3.bQ O6
  have dk:DK (fun id=>M id\/h.next<=id) (aH Pg [.tmp 8] R) K (fun(i:Nat) (vs:List AV) (h:AH)=>if i=0 then dw.n1 (fun id=>M id\/h.next<=id) (aH Pg [.tmp 8] R) (aH Pg [.tmp 8] R) (fun _ _ _=>False) (fun v h=>R (.bV v) h) h else False) (fun v h=>R (.bV v) h) h3 n0 p vw vr xr z_ u7 (I (a+n)) bk ids qm bm gm l1 AB rs w y j (BW bk (rs.map (·.1)) w y.1 (sg rs (j+1) kk) l1):=by
   refine⟨sc,vR,rt.vE eO,hy,Eu,oR,Ho eO,?_,?_⟩
   ·intro e h' ho hp f'
    rw[ho]at cJ
    simpa using he e h' cJ.symm hp (TW.trans eO f')
   ·intro l' ib jO jP h' ho J0 f'
    rw[ho]at cJ
    have kl:=TW.trans eO f'
    simp only[dw.n2,aT,al,aF,J0.p,aB,zG,zA,ah]
    refine dC (k:=4) (rt.vE kl).r eF hy (by omega) rfl fun _=>?_
    rw[kF]
    simp only[aR,w1 (1+(kk:Int)) (by omega),w1 ((j:Int)+(1+kk)) (by omega)]
    have e8:j+1+kk=a+(n-(m-kk)):=by omega
    have e9:(j:Int)+(1+kk)=a+(n-(m-kk):Nat):=by omega
    simp only[rf]at cJ
    rw[e8]at cJ gd
    exact step (m-kk,l',ib,jO,jP) _ h' (by simp only;omega) ⟨by rw[<-e9],by simp only;omega,J0,gd,TW.obj f' Eu rfl,cJ,kl⟩
  clear cJ step
  have e4:(⟨#[114,101,112,101,97,116]⟩:ByteArray)=aK:=rfl
  have e5:(⟨#[105,102]⟩:ByteArray)=c9:=rfl
  have e6:(⟨#[117,115,101]⟩:ByteArray)=bP:=rfl
  have e7:(⟨#[109,101,97,115,117,114,101]⟩:ByteArray)=be:=rfl
  have e8:(⟨#[114,101,115,101,116]⟩:ByteArray)=ch:=rfl
  unfold BW at dk
  simp only[dw.fM,dw.fQ,al,aF,oR,aB,zG,au,zA,zB,ah,dw.fc,cU,e4]
  by_cases k1:y.1.kind=aK
  ·rw[zX k1]at dk
   simp only[zL k1,dw.ft,ao,zD,zF,zC,zI]
   exact Sj (ih kk (by omega)) dk (by omega) kF (gt (.inl k1))
  rw[zW k1]at dk
  simp only[zK k1,dw.ft,ao,zE,zD,zC,zH,dw.eh,cU,e5]
  by_cases k2:y.1.kind=c9
  ·rw[zX k2]at dk
   obtain⟨g,lK,_⟩:=go.i k2
   rw[lK]at dk
   simp only[zL k2,dw.dH,ao,zD,zF,zC,zI]
   exact VS (ih kk (by omega)) lK dk (by omega) kF (gt (.inr k2))
  rw[zW k2]at dk
  simp only[zK k2,dw.dH,ao,zE,zD,zC,zH,dw.cX,cU,e6]
  by_cases k3:y.1.kind=bP
  ·rw[zX k3]at dk
   simp only[zL k3,dw.cV,ao,zD,zF,zC,zI]
   exact Si dk (go.u k3).1 (go.u k3).2
  rw[zW k3]at dk
  simp only[zK k3,dw.cV,ao,zE,zD,zC,zH,dw.cN,cU,e7]
  by_cases k4:y.1.kind=be
  ·rw[zX k4]at dk
   obtain⟨x,z,XU,h0,h1⟩:=go.m k4
   rw[XU]at dk
   simp only[zL k4,dw.cq,ao,zD,zF,zC,zI]
   exact On XU dk h0 h1
  rw[zW k4]at dk
  simp only[zK k4,dw.cq,ao,zE,zD,zC,zH,dw.cj,cU,e8]
  by_cases k5:y.1.kind=ch
  ·rw[zX k5]at dk
   obtain⟨x,hx,h0⟩:=go.s k5
   simp only[zL k5,dw.bW,ao,zD,zF,zC,zI]
   exact L3 dk (fun c hc=>by rw[hx]at hc;have:=List.mem_singleton.1 hc;subst this;exact h0)
  rw[zW k5]at dk
  simp only[zK k5,dw.bW,ao,zE,zD,zC,zH]
  exact uZ dk rfl vR (TW.bJ Fr.refl)
end
end
section
open Go.Ab
attribute [-simp] aN aD
def OG(o:bI):Prop:=o.az.length<=100000000/\xg o
def WG(w:jU):Prop:=(0<=w.cT/\w.cT<18446744073709551616)/\(0<=w.value/\w.value<18446744073709551616)
theorem D1{k:Int}{n:ByteArray}{qs:List Int}{b:Int}{w:jU}(hq:qs.length<=100000000)(hw:WG w):OG (mi k n qs b w):=⟨hq,hw.1.1,hw.1.2,hw.2.1,hw.2.2⟩
def LG(l:OL):Prop:=∀x∈l,OG x.1
theorem xB{l l':OL}{o:bI}{pl:Int}(h:kX l o pl=.ok l')(hl:LG l)(ho:OG o):LG l':=by
 unfold kX at h
 split at h
 ·cases h
 ·cases h
  intro x hx
  rcases List.mem_append.1 hx with hx |hx
  ·exact hl x hx
  ·have:=List.mem_singleton.1 hx
   subst this;exact ho
theorem yZ{I:OL->Prop}{f:OL->Except Int OL}(hf:∀l l',f l=.ok l'->I l->I l'):∀(n:Nat)(l l':OL),iA f n l=.ok l'->I l->I l'
 |0,l,l',h,hl=>by cases h;exact hl
 |n+1,l,l',h,hl=>by
  unfold iA at h
  split at h
  ·cases h
  ·rename_i l1 h1
   split at h
   ·cases h;exact hf _ _ h1 hl
   ·exact yZ hf n l1 l' h (hf _ _ h1 hl)
theorem FR{f:OL->Except Int OL}{x:Except Int OL}{l':OL}(h:rf f x=.ok l'):∃l1,x=.ok l1/\f l1=.ok l':=by
 cases x with
 |error e=>cases h
 |ok l1=>exact⟨l1,rfl,h⟩
theorem NT{bk:Bk}{L:List Row}(hL:∀r∈L,r.args.length<=100000000){w:jU}(hw:WG w){pl:Int}(k:Nat):∀(n:Nat){env:List (ByteArray×Int)}{rows:List Row}{l l':OL}(_:rows.length=n)(_:∀r∈rows,r∈L)(_:bF bk L k env w pl rows l=.ok l')(_:LG l),LG l':=by
 induction k using Nat.strongRecOn with
 |ind k ihk=>
 intro n
 induction n using Nat.strongRecOn with
 |ind n ih=>
 intro env rows l l' hn hr h hl
 cases rows with
 |nil=>rw[Dz]at h;cases h;exact hl
 |cons r rest=>
  rw[List.length_cons]at hn
  rw[BB]at h
  obtain⟨l1,h1,h2⟩:=FR h
  refine ih _ (by rw[List.length_drop];omega) rfl (fun x hx=>hr x (List.mem_cons_of_mem _ (List.mem_of_mem_drop hx))) h2 ?_
  split at h1
  ·exact yZ (I:=LG) (fun a b sM ha=>ih _ (by rw[yA];omega) rfl (fun x hx=>hr x (List.mem_cons_of_mem _ (List.mem_of_mem_take hx))) sM ha) _ _ _ h1 hl
  ·unfold jK at h1
   have mR:=hL r (hr r (List.mem_cons_self ..))
   split at h1
   ·exact xB h1 hl (D1 (by simpa using mR) hw)
   ·split at h1
    ·cases h1;exact hl
    ·split at h1
     ·cases h1;exact hl
     ·split at h1
      ·rename_i hi
       exact ihk _ hi _ rfl (fun x hx=>List.mem_of_mem_drop (List.mem_of_mem_take hx)) h1 hl
      ·cases h1;exact hl
theorem LQ{bk:Bk}{L:List Row}(hL:∀r∈L,r.args.length<=100000000){w:jU}(hw:WG w){pl:Int}{k:Nat}{nm:ByteArray}{qs:List Int}{l l':OL}(hq:qs.length<=100000000)(h:jK bk L k nm qs w pl l=.ok l')(hl:LG l):LG l':=by
 unfold jK at h
 split at h
 ·exact xB h hl (D1 hq hw)
 ·split at h
  ·cases h;exact hl
  ·split at h
   ·cases h;exact hl
   ·split at h
    ·exact NT hL hw _ _ rfl (fun x hx=>List.mem_of_mem_drop (List.mem_of_mem_take hx)) h hl
    ·cases h;exact hl
theorem OW(x:Int):0<=IntKind.u64.wrap x/\IntKind.u64.wrap x<18446744073709551616:=by
 have e:IntKind.u64.wrap x=x%18446744073709551616:=by unfold IntKind.wrap;rfl
 rw[e];omega
theorem JD{w w':jU}{g:js}{n:Int}(h:pU w g n=some w'):WG w':=by
 unfold pU at h
 split at h
 ·cases h
 ·cases h
  exact⟨OW _,OW _⟩
theorem Ve{bk:Bk}{L:List Row}(hL:∀r∈L,r.args.length<=100000000)(n:Nat):∀{w:jU}{rows:List Row}{l l':OL}(_:WG w)(_:rows.length=n)(_:∀r∈rows,r∈L)(_:jS bk L w rows l=.ok l')(_:LG l),LG l':=by
 induction n using Nat.strongRecOn with
 |ind n ih=>
 intro w rows l l' hw hn hr h hl
 cases rows with
 |nil=>rw[xO]at h;cases h;exact hl
 |cons r rest=>
  rw[List.length_cons]at hn
  rw[zq]at h
  obtain⟨l1,h1,h2⟩:=FR h
  have mR:=hL r (hr r (List.mem_cons_self ..))
  refine ih _ (by rw[List.length_drop];omega) hw rfl (fun x hx=>hr x (List.mem_cons_of_mem _ (List.mem_of_mem_drop hx))) h2 ?_
  unfold BW at h1
  split at h1
  ·exact yZ (I:=LG) (fun a b sM ha=>ih _ (by rw[yA];omega) hw rfl (fun x hx=>hr x (List.mem_cons_of_mem _ (List.mem_of_mem_take hx))) sM ha) _ _ _ h1 hl
  split at h1
  ·split at h1
   ·cases h1;exact hl
   ·split at h1
    ·cases h1;exact hl
    ·rename_i w' ji
     exact ih _ (by rw[yA];omega) (JD ji) rfl (fun x hx=>hr x (List.mem_cons_of_mem _ (List.mem_of_mem_take hx))) h1 hl
  split at h1
  ·exact LQ hL hw (by simpa using mR) h1 hl
  split at h1
  ·split at h1
   ·exact xB h1 hl (D1 (by simp) hw)
   ·cases h1;exact hl
  split at h1
  ·exact xB h1 hl (D1 (by simpa using mR) hw)
  cases h1;exact hl
end
section
open Go.Ab
attribute [-simp] aN aD
section
variable {h:AH} {M:Nat->Prop} {R:AE->AH->Prop} {xr:AV}
def pc:Bk:=⟨[],[],[]⟩
theorem Tq(hx:cB xr=true/\cy xr=some [xr])(hR:∀p qm bm gm h',PA h.next h' p xr pc [] qm bm gm 0->Fr h h' (fun _=>False)->R (.ret (.ptr p 0)) h'):ay Pg 36 [xr] h M R:=by
 apply QD.aI
 unfold QD.n2 QD.n1
 refine zf (enc:=Sb) fun qm h1 o1 hq f1=>zf (enc:=Sb) fun bm h2 o2 hb f2=>zf (enc:=Sb) fun gm h3 o3 hg f3=>?_
 refine⟨[xr,.mp qm,.mp bm,.mp gm,aV,I 0,I 0,aV,I 0],by simp[dS,putCells,hx.2],?_⟩
 refine cW (by show(cB xr&&_)=true;rw[hx.1];rfl) fun p h4 f4 hp o4=>?_
 have kl:=(f1.bO f2).bO (f3.bO f4)
 have n1:=f1.next
 have n2:=f2.next
 have n3:=f3.next
 have l1:=h1.lt _ _ o1
 have l2:=h2.lt _ _ o2
 have fin:=hR p qm bm gm h4 ⟨⟨by omega,hq,by omega,by omega,(fun _ h=>by cases h)⟩,o4,⟨f4.bQ (f3.bQ (f2.bQ o1)),f4.bQ (f3.bQ o2),f4.bQ o3,rfl,(fun k d id h=>by cases h),.nil,by omega⟩⟩ kl
 simpa using fin
end
theorem Vn:pd pc:=⟨⟨⟨by decide,by decide,(fun _ h=>by cases h),(fun _ h=>by cases h),(fun _ h=>by cases h)⟩,.nil⟩,(fun _ h=>by cases h)⟩
theorem WY:kx Pg 24=some true:=by kernel_rfl
theorem ZB:eW Pg 24=some 3:=by kernel_rfl
theorem HY{h:AH}{R:AE->AH->Prop}{v:Nat}{q b:Int}{xo:AV}{a e:Int}(ho:h.obj v=some (aO [I q,I b,xo] 3 24))(hR:R (.ret (.cM [.agg [I q,I b,xo],I a,I e])) h):aH Pg [.cell 2 24,.tmp 3,.tmp 4] R [.ptr v 0,I a,I e] h:=by
 unfold aH jp
 rw[WY,ZB]
 refine dN ho rfl fun _=>?_
 simpa[jp,gN] using hR
theorem BA{q b:Int}:∀{l:List bI}{i:Nat}{n:Int},0<=(h_ q b l i n).1
 |[],_,_=>by simp[h_]
 |o::l,i,n=>by
  unfold h_
  split
  ·simp
  ·split
   ·simp
   ·exact BA
theorem LH{q b:Int}{l:List bI}:0<=(fg q b l).1:=by
 unfold fg
 split
 ·simp
 ·split
  ·simp
  ·exact BA
theorem DV:dS (fun i=>[(0,1),(1,1),(2,1)][i]?) ([Value.int .i64 0,.int .i64 0,.slice none 0 0].map .sc) []=some [I 0,I 0,aV]:=rfl
section
variable {h:AH} {M:Nat->Prop} {R:AE->AH->Prop} {xr:AV} {rs:List (Row×AV)}
structure Jo (h:AH) (f:Qv) (xo:AV) (yl:List (bI×AV)):Prop where
 o:kN h xo yl
 e:yl.map (·.1)=f.ops
 g:∀y∈yl,OG y.1
 n:yl.length<=4096
theorem RI(rt:RT h xr rs)(hn:∀y∈rs,y.1.num<=9223372036854775807)
  (hR:∀xo yl h',Jo h' (eT (rs.map (·.1))) xo yl->Fr h h' (fun _=>False)->R (.ret (.cM [.agg [I (eT (rs.map (·.1))).q,I (eT (rs.map (·.1))).b,xo],I (eT (rs.map (·.1))).at_,I (eT (rs.map (·.1))).err])) h'):ay Pg 20 [xr] h M R:=by
 apply kO.aI
 unfold kO.bC
 have hv:=AH.cK h (aO ([Value.int .i64 0,.int .i64 0,.slice none 0 0].map AV.sc) 3 24)
 rw[aN]
 refine⟨rfl,?_⟩
 have f1:Fr h (h.alloc (aO ([Value.int .i64 0,.int .i64 0,.slice none 0 0].map AV.sc) 3 24)) (fun _=>False):=Fr.refl.alloc _
 generalize h.alloc (aO ([Value.int .i64 0,.int .i64 0,.slice none 0 0].map AV.sc) 3 24)=h1 at *
 obtain⟨v,qe⟩:∃v,v=h.next:=⟨_,rfl⟩
 rw[<-qe]at hv ⊢
 have ov:h1.obj v=some (aO [I 0,I 0,aV] 3 24):=hv
 have JT:=rt.bp f1
 unfold kO.bz
 refine⟨fun _=>False,fun _ h=>h.elim,Tq JT.r.one fun p qm bm gm h2 pa f2=>?_⟩
 have cu:=f1.bO f2
 have Aw:=rt.bp cu
 have ZQ:v<h1.next:=h1.lt _ _ ov
 generalize vi:h1.next=n0 at *
 have hvN:v<n0:=ZQ
 have Ha:h.next<=n0:=by have:=f1.next;omega
 have O0:∀{T:TypeId->Bool}{a b:AH},Fr h a (fun _=>False)->Fr a b (TW T n0 a)->Fr h b fun _=>False:=fun fa fb=>fa.trans (fb.mono fun id hid=>.inr (zR Ha hid.1))
 have qH:h2.obj v=some (aO [I 0,I 0,aV] 3 24):=f2.bQ ov
 have Wv:∀id,n0<=id->(M id\/v<=id):=fun id hid=>.inr (by omega)
 simp only[kO.bu,Aw.r.len.1,Aw.r.len.2,zH]
 have er:(rs.length:Int)=((0:Nat):Int)+(rs.length:Int):=by simp
 have kH:sg rs 0 rs.length=rs.map (·.1):=by unfold sg;simp
 have hL:∀r∈rs.map (·.1),r.args.length<=100000000:=fun r hr=>by
  obtain⟨z,hz,rfl⟩:=List.mem_map.1 hr
  exact(rt.a z hz).2
 have fin:∀{h':AH}{xo:AV}{yl:List (bI×AV)},h'.obj v=some (aO [I (eT (rs.map (·.1))).q,I (eT (rs.map (·.1))).b,xo] 3 24)->Jo h' (eT (rs.map (·.1))) xo yl->Fr h h' (fun _=>False) ->
   aH Pg [.cell 2 24,.tmp 3,.tmp 4] R [.ptr v 0,I (eT (rs.map (·.1))).at_,I (eT (rs.map (·.1))).err] h':=fun ho ha hf=>HY ho (hR _ _ _ ha hf)
 have zero:∀{h':AH}{a e:Int},eT (rs.map (·.1))=⟨0,0,[],a,e⟩->h'.obj v=some (aO [I 0,I 0,aV] 3 24)->Fr h h' (fun _=>False)->aH Pg [.cell 2 24,.tmp 3,.tmp 4] R [.ptr v 0,I a,I e] h':=fun{h' a e} he ho hf=>by
  have:=fin (h':=h') (xo:=aV) (yl:=[])
  rw[he]at this
  exact this ho ⟨⟨.inl ⟨rfl,rfl⟩,(fun _ h=>by cases h)⟩,rfl,(fun _ h=>by cases h),by simp⟩ hf
 have y_:∀{h':AH}{x y z:AV},h'.obj v=some (aO [I 0,I 0,aV] 3 24)->(h'.put v 0 [x,y,z]).obj v=some (aO [x,y,z] 3 24):=fun ho=>by rw[fF ho];rfl
 have zo:∀{h':AH}{cs:List AV},Fr h h' (fun _=>False)->Fr h (h'.put v 0 cs) fun _=>False:=fun hf=>hf.put (.inr (by omega))
 rw[er]
 refine⟨TW TP n0 h2,fun id hs _=>Wv id hs.1,Rv rs.length (a:=0) (deep:=0) (own:=none) (bk:=pc) (ids:=[]) pa Aw Vn.i rfl (by omega) (by omega) (fun _ h=>h) ?_ ?_⟩
 ·intro pl e h3 hl hp f3
  rw[kH]at hl
  obtain⟨cs,hp,c8⟩:=hp
  have eO:=O0 cu f3
  have nj:h3.obj v=some (aO [I 0,I 0,aV] 3 24):=TW.obj f3 qH rfl
  have h0:(e != 0)=true:=by simpa using CP _ rfl hl
  have KS:v≠p:=fun e=>by have:=pa.n.1;omega
  have j_:eT (rs.map (·.1))=⟨0,0,[],pl,e⟩:=by
   unfold eT
   rw[show(⟨[],[],[]⟩:Bk)=pc from rfl,hl]
  simp only[kO.bg,cZ,h0,kO.aZ,ao,zD,zF,zC,zI,kO.bj]
  refine⟨fun _=>p,fun _ _=>by rw[hp];simp,⟨_,DV,?_⟩⟩
  simp only[aT,al,aF,hp,aB,zG,c8,ah,zH,aD,nj,jf,cH]
  refine⟨⟨⟨.inr (by omega),fun _ _=>KS⟩,rfl,rfl,by simp⟩,?_⟩
  simp only[kO.bn]
  exact zero j_ (y_ nj) (zo eO)
 ·intro bk idl pl h3 hl AC f3
  rw[kH]at hl
  have tP:=hl
  have eO:=O0 cu f3
  have nj:h3.obj v=some (aO [I 0,I 0,aV] 3 24):=TW.obj f3 qH rfl
  have JS:=rt.bp eO
  obtain⟨bf,_,_,WA⟩:=Iu hL rs.length (deep:=0) (own:=none) (i:=0) (bk:=pc) (cE:=bk) (by simp) Vn (fun k h=>by cases h) (by rw[<-At,kH];exact hl)
  obtain⟨A7,_,hdk⟩:=WA bk jY.refl bf
  have A7:=A7 rfl
  rw[<-At]at A7
  have sc:SC bk rs:=⟨bf,fun k d hd=>hdk k (Nat.zero_le _) (zM.1 hd).1 d hd,hn⟩
  have vR:PX n0 h3 p xr bk ([]++idl) qm bm gm [] pl aV aV:=⟨⟨AC.n.1,(fun _ _ _ e=>by cases e),(fun _ _ _ e=>by cases e)⟩,AC.p,AC.m,.nil,⟨[],.nil,rfl,(fun _ h=>by cases h)⟩,by simp⟩
  have oI:((0:Int) != 0)=false:=rfl
  simp only[kO.bg,cZ,oI,kO.aZ,ao,zE,zD,zC,zH,kO.a_,JS.r.len.1,JS.r.len.2]
  refine⟨[B false,U 0,U 0],rfl,?_⟩
  rw[er]
  refine⟨TW TQ n0 h3,fun id hs _=>Wv id hs.1,WT sc rs.length h3 _ _ 0 ⟨false,0,0⟩ pl aV aV [] vR JS (by simp) A7 (fun _ h=>h) ?_ ?_⟩
  ·intro e h4 hd hp f4
   rw[kH]at hd
   obtain⟨_,_,_,tH⟩:=hp
   have kl:=O0 eO f4
   have xZ:h4.obj v=some (aO [I 0,I 0,aV] 3 24):=TW.obj f4 nj rfl
   have KS:v≠p:=fun e=>by have:=pa.n.1;omega
   have j_:eT (rs.map (·.1))=⟨0,0,[],e,115⟩:=by
    unfold eT
    rw[show(⟨[],[],[]⟩:Bk)=pc from rfl,hl]
    simp only[hd]
   simp only[dR,zT,kO.aQ,ao,zD,zF,zC,zI,kO.aU]
   refine⟨fun _=>p,fun _ _=>by rw[tH.p];simp,⟨_,DV,?_⟩⟩
   simp only[aT,al,aF,tH.p,aB,zG,zA,zB,ah,zH,aD,xZ,jf,cH]
   refine⟨⟨⟨.inr (by omega),fun _ _=>KS⟩,rfl,rfl,by simp⟩,?_⟩
   simp only[kO.aP]
   exact zero j_ (y_ xZ) (zo kl)
  ·intro l ib xp xo h4 hd tH f4
   rw[kH]at hd
   have kl:=O0 eO f4
   have xZ:h4.obj v=some (aO [I 0,I 0,aV] 3 24):=TW.obj f4 nj rfl
   have lg:LG l:=Ve hL _ ⟨⟨by decide,by decide⟩,⟨by decide,by decide⟩⟩ rfl (fun _ h=>h) hd (fun _ h=>by cases h)
   obtain⟨yl,o1,o2,o3⟩:=tH.o
   have Ul:kN h4 xo yl:=⟨o1.fl,fun y hy=>(o3 y hy).1⟩
   have Yb:∀y∈yl,OG y.1:=fun y hy=>by
    have:y.1∈l.map (·.1):=by rw[<-o2];exact List.mem_map_of_mem hy
    obtain⟨x,hx,e⟩:=List.mem_map.1 this
    rw[<-e];exact lg x hx
   have ET:yl.length<=4096:=by
    have:=congrArg List.length o2
    have:=tH.len
    simp only[zZ]at *;omega
   simp only[dR,zS,kO.aQ,ao,zE,zD,zC,zH,kO.n9,aT,al,p5,tH.p,nS,zG,List.drop_succ_cons,List.drop_zero,List.take_succ_cons,List.take_zero]
   refine⟨by simp,?_⟩
   refine⟨fun _=>False,fun _ h=>h.elim,FO Ul (fun y hy=>zR (Yb y hy).1 (by decide)) fun h5 f5=>?_⟩
   rw[o2]
   have qN:=kl.bO f5
   have su:=tH.bp f5
   have vY:=f5.bQ xZ
   have IT:=Ul.bp f5
   have j_:eT (rs.map (·.1))=if (fg (bq bk.qs) (bq bk.bs) (l.map (·.1))).2≠0 then⟨0,0,[],(match l[(fg (bq bk.qs) (bq bk.bs) (l.map (·.1))).1.toNat]? with |some x=>x.2 |none=>0),(fg (bq bk.qs) (bq bk.bs) (l.map (·.1))).2⟩ else⟨bq bk.qs,bq bk.bs,l.map (·.1),0,0⟩:=by
    conv=>lhs;unfold eT
    rw[show(⟨[],[],[]⟩:Bk)=pc from rfl,hl]
    simp only[hd]
    all_goals rfl
   have Up:=LH (q:=bq bk.qs) (b:=bq bk.bs) (l:=l.map (·.1))
   generalize fg (bq bk.qs) (bq bk.bs) (l.map (·.1))=c at *
   obtain⟨c1,c2⟩:=c
   simp only at j_ Up
   simp only[l5,dx,zA,zB,ah,kO.n8,cZ]
   by_cases k1:c2=0
   ·rw[zW (by simpa using k1)]at j_
    have iu:(c2 != 0)=false:=by simp[k1]
    simp only[iu,kO.n7,ao,zE,zD,zC,zH,kO.n1,aT,al,p5,su.p,nS,zG,List.drop_succ_cons,List.drop_zero,List.take_succ_cons,List.take_zero]
    refine⟨by simp,?_⟩
    simp only[aD,vY,jf,cH]
    have hx:=IT.dy.one.1
    refine⟨⟨.inr (by omega),by show(true&&(true&&(cB xo&&true)))=true;rw[hx];rfl,rfl,by simp⟩,?_⟩
    have:=fin (h':=h5.put v 0 [I (bq bk.qs),I (bq bk.bs),xo]) (xo:=xo) (yl:=yl)
    rw[j_]at this
    have fv:Fr h5 (h5.put v 0 [I (bq bk.qs),I (bq bk.bs),xo]) (·=v):=Fr.refl.put (.inl rfl)
    refine this (y_ vY) ⟨⟨IT.dy.fr fv fun id o ho ht e=>?_,fun y hy=>(IT.qs y hy).fr fv fun id o ho ht e=>?_⟩,o2,Yb,ET⟩ (zo qN)
    ·subst e;rw[vY]at ho;cases ho;exact absurd (ht rfl) (show(24:Nat)≠38 by decide)
    ·subst e;rw[vY]at ho;cases ho;exact absurd (ht rfl) (show(24:Nat)≠3 by decide)
   ·rw[zX k1]at j_
    have iu:(c2 != 0)=true:=by simpa using k1
    simp only[iu,kO.n7,ao,zD,zF,zC,zI,kO.n6,aT,al,aF,su.p,aB,zG,zA,zB,ah,su.x.fl.len.1,su.x.fl.len.2,zH,zZ,ba]
    by_cases k2:c1<l.length
    ·obtain⟨x,hx⟩:∃x,l[c1.toNat]?=some x:=⟨l[c1.toNat]'(by omega),zJ _⟩
     rw[hx]at j_
     simp only[zL k2,kO.n5,ao,zD,zF,zC,zI,kO.n4]
     rcases su.x with⟨_,e0⟩ |⟨ix,rfl,Uk⟩
     ·have:l=[]:=by simpa using e0
      subst this
      simp at k2;omega
     ·have KS:v≠p:=fun e=>by have:=pa.n.1;omega
      have hvx:v≠ix:=b5 vY Uk (show(24:Nat)≠3 by decide)
      have uE:((l.map (·.2)).flatMap di)[c1.toNat]?=some (I x.2):=by
       have:=gD (f:=di) (k:=1) fT (l.map (·.2)) c1.toNat 0 (by omega)
       rw[Nat.mul_one,Nat.add_zero,List.getElem?_map,hx]at this
       exact this
      refine⟨fun i=>if i=4 then p else ix,fun i _=>by show h5.obj (if i=4 then p else ix)≠none;split<;>simp[su.p,Uk],⟨_,DV,?_⟩⟩
      simp only[aT,al,aF,su.p,aB,zG,zA,zB,ah,zV,zH,rk,Uk,Nat.mul_one,uE,zZ]
      refine⟨⟨by omega,by omega⟩,by simp,?_⟩
      simp only[aD,vY,jf,cH]
      refine⟨⟨⟨.inr (by omega),fun i _=>by show v≠(if i=4 then p else ix);split;exact KS;exact hvx⟩,rfl,rfl,by simp⟩,?_⟩
      simp only[kO.n3]
      exact zero j_ (y_ vY) (zo qN)
    ·have hx:l[c1.toNat]?=none:=List.getElem?_eq_none (by omega)
     rw[hx]at j_
     simp only[zK k2,kO.n5,ao,zE,zD,zC,zH,kO.n2]
     refine⟨_,DV,?_⟩
     simp only[aD,vY,jf,cH]
     refine⟨⟨.inr (by omega),rfl,rfl,by simp⟩,?_⟩
     exact zero j_ (y_ vY) (zo qN)
end
end
section
open Go.Ab
attribute [-simp] aN aD
end
section
open Go.Ab
attribute [-simp] aN aD
abbrev tq:ByteArray:=⟨#[113]⟩
abbrev t1:ByteArray:=⟨#[113,117,98,105,116,115,32,113,32,49,59,32,98,105,116,115,32,99,32,50,59,32,98,105,116,115,32,100,32,49,59,32,109,101,97,115,117,114,101,32,113,91,48,93,32,100,91,48,93,59,32,105,102,32,100,32,49,32,123,32,120,32,113,91,48,93,59,32,125]⟩
abbrev t2:ByteArray:=⟨#[103,97,116,101,32,103,32,120,32,123,32,103,32,120,59,32,125]⟩
abbrev t3:ByteArray:=⟨#[113,117,98,105,116,115,32,113,32,49,59,32,114,101,112,101,97,116,32,53,48,48,48,32,123,32,120,32,113,91,48,93,59,32,125]⟩
abbrev ss:List Row:=[⟨aX,⟨#[113]⟩,[],1,0,0⟩,⟨bK,⟨#[99]⟩,[],2,0,12⟩,⟨bK,⟨#[100]⟩,[],1,0,22⟩,⟨be,ByteArray.empty,[⟨⟨#[113]⟩,0⟩,⟨⟨#[100]⟩,0⟩],0,0,32⟩,⟨c9,⟨#[100]⟩,[],1,1,51⟩,⟨bP,⟨#[120]⟩,[⟨⟨#[113]⟩,0⟩],0,0,60⟩]
abbrev j8:List Row:=[⟨aY,⟨#[103]⟩,[⟨⟨#[120]⟩,-1⟩],0,1,0⟩,⟨bP,⟨#[103]⟩,[⟨⟨#[120]⟩,-1⟩],0,0,11⟩]
abbrev nM:List Row:=[⟨aX,⟨#[113]⟩,[],1,0,0⟩,⟨aK,ByteArray.empty,[],5000,1,12⟩,⟨bP,⟨#[120]⟩,[⟨⟨#[113]⟩,0⟩],0,0,26⟩]
theorem Te:pX t1=.ok ss:=by
 rw[<-vT]
 kernel_rfl
theorem Td:pX t2=.ok j8:=by
 rw[<-vT]
 kernel_rfl
theorem Tc:pX t3=.ok nM:=by
 rw[<-vT]
 kernel_rfl
theorem Ef{f:OL->Except Int OL}{o:bI}{pl:Int}(hf:∀l,f l=kX l o pl):∀(n:Nat)(l:OL),l.length<=4096->4096<l.length+n->iA f n l=.error pl
 |0,l,h1,h2=>by omega
 |n+1,l,h1,h2=>by
  simp only[iA,hf,kX]
  by_cases k:l.length=4096
  ·rw[zX k]
  ·rw[zW k]
   simp only[List.length_append,List.length_singleton]
   rw[zW (by omega)]
   exact Ef hf n _ (by simp;omega) (by simp;omega)
end
section
open Go.Ab
def wY:Nat->List dO->List Row->Int->Int
 |0,_,_,n=>n
 |_+1,_,[],n=>n
 |m+1,ds,r::rest,n=>wY m ds (rest.drop r.rows.toNat) (min (n+kJ ds r (wY m ds (rest.take r.rows.toNat) 0)) 4097)
theorem wX:∀(m:Nat)(ds:List dO)(rows:List Row)(n:Int),rows.length<=m->wY m ds rows n=countP ds rows n
 |0,ds,rows,n,h=>by
  have:rows=[]:=List.length_eq_zero_iff.1 (by omega)
  subst this
  rw[countP_nil];rfl
 |m+1,ds,[],n,h=>by rw[countP_nil];rfl
 |m+1,ds,r::rest,n,h=>by
  rw[List.length_cons]at h
  rw[countP_cons]
  simp only[wY]
  rw[wX m _ _ _ (by simp only[yA,List.length_drop];omega),wX m _ _ _ (by simp only[yA,List.length_drop];omega)]
def DM:Nat->Nat->Option Nat->Nat->List Row->Bk->Except (Int×Int) Bk
 |0,_,_,_,_,bk=>.ok bk
 |_+1,_,_,_,[],bk=>.ok bk
 |m+1,deep,own,i,r::rest,bk=>
  if mN r rest.length deep own.isSome≠0 then .error (r.place,mN r rest.length deep own.isSome)
  else match lA bk own i r with
   |.error e=>.error (r.place,e)
   |.ok qO=>match DM m (deep+1) (if r.kind=aY then some bk.ds.length else own) (i+1) (rest.take r.rows.toNat) qO with
    |.error e=>.error e
    |.ok iK=>DM m deep own (i+1+r.rows.toNat) (rest.drop r.rows.toNat) (if r.kind=aY then{ iK with ds:=l0 iK.ds bk.ds.length (wY m iK.ds (rest.take r.rows.toNat) 0) } else iK)
theorem rM:∀(m:Nat)(deep:Nat)(own:Option Nat)(i:Nat)(rows:List Row)(bk:Bk),rows.length<=m->DM m deep own i rows bk=fB deep own i rows bk
 |0,deep,own,i,rows,bk,h=>by
  have:rows=[]:=List.length_eq_zero_iff.1 (by omega)
  subst this
  rw[nR];rfl
 |m+1,deep,own,i,[],bk,h=>by rw[nR];rfl
 |m+1,deep,own,i,r::rest,bk,h=>by
  rw[List.length_cons]at h
  rw[oD]
  simp only[DM]
  split
  ·rfl
  ·cases lA bk own i r with
   |error e=>rfl
   |ok qO=>
    simp only
    rw[rM m _ _ _ _ _ (by rw[yA];omega)]
    cases fB (deep+1) (if r.kind=aY then some bk.ds.length else own) (i+1) (rest.take r.rows.toNat) qO with
    |error e=>rfl
    |ok iK=>
     simp only
     rw[rM m _ _ _ _ _ (by rw[List.length_drop];omega),wX m _ _ _ (by rw[yA];omega)]
def r8 (bk : Bk) (L : List Row) : Nat → jU → List Row → OL → Except Int OL
  | 0, _, _, l => .ok l
  | _ + 1, _, [], l => .ok l
  | m + 1, w, r :: rest, l => rf (r8 bk L m w (rest.drop r.rows.toNat))
    (if r.kind = aK then iA (r8 bk L m w (rest.take r.rows.toNat)) r.num.toNat l
     else if r.kind = c9 then (match fA bk.bs r.name with
      | none => .ok l
      | some g => match pU w g r.num with
        | none => .ok l
        | some w' => r8 bk L m w' (rest.take r.rows.toNat) l)
     else BW bk L w r [] l)
theorem Bu{bk:Bk}{L:List Row}:∀(m:Nat)(w:jU)(rows:List Row)(l:OL),rows.length<=m->r8 bk L m w rows l=jS bk L w rows l
 |0,w,rows,l,h=>by
  have:rows=[]:=List.length_eq_zero_iff.1 (by omega)
  subst this
  rw[xO];rfl
 |m+1,w,[],l,h=>by rw[xO];rfl
 |m+1,w,r::rest,l,h=>by
  rw[List.length_cons]at h
  rw[zq]
  simp only[r8]
  have e1:r8 bk L m w (rest.drop r.rows.toNat)=jS bk L w (rest.drop r.rows.toNat):=funext fun l=>Bu m w _ l (by rw[List.length_drop];omega)
  have e2:∀w',r8 bk L m w' (rest.take r.rows.toNat)=jS bk L w' (rest.take r.rows.toNat):=fun w'=>funext fun l=>Bu m w' _ l (by rw[yA];omega)
  rw[e1,e2]
  congr 1
  unfold BW
  by_cases k1:r.kind=aK
  ·rw[zX k1,zX k1]
  ·by_cases k2:r.kind=c9
   ·simp only[zW k1,zX k2]
    cases fA bk.bs r.name with
    |none=>rfl
    |some g=>
     simp only
     cases pU w g r.num with
     |none=>rfl
     |some w'=>simp only;rw[e2]
   ·simp only[zW k1,zW k2]
theorem We:∃bk,fB 0 none 0 ss pc=.ok bk/\bq bk.qs=1/\bq bk.bs=3/\jS bk ss ⟨false,0,0⟩ ss []=.ok [(⟨2,ByteArray.empty,[0],2,false,0,0⟩,32),(⟨1,⟨#[120]⟩,[0],0,true,4,4⟩,60)]:=by
 refine⟨⟨[⟨⟨#[113]⟩,0,1⟩],[⟨⟨#[99]⟩,0,2⟩,⟨⟨#[100]⟩,2,1⟩],[]⟩,?_,by decide,by decide,?_⟩
 ·rw[<-rM 6 _ _ _ _ _ (by decide)]
  kernel_rfl
 ·rw[<-Bu 6 _ _ _ (by decide)]
  kernel_rfl
theorem WN:eT ss=⟨1,3,[⟨2,ByteArray.empty,[0],2,false,0,0⟩,⟨1,⟨#[120]⟩,[0],0,true,4,4⟩],0,0⟩:=by
 obtain⟨bk,h1,h2,h3,h4⟩:=We
 unfold eT
 rw[show(⟨[],[],[]⟩:Bk)=pc from rfl,h1]
 simp only[h4,h2,h3,List.map_cons,List.map_nil]
 have hc:fg 1 3 [⟨2,ByteArray.empty,[0],2,false,0,0⟩,⟨1,⟨#[120]⟩,[0],0,true,4,4⟩]=(0,0):=by kernel_rfl
 rw[hc]
 rfl
theorem WM:eT j8=⟨0,0,[],11,114⟩:=by
 have h1:fB 0 none 0 j8 pc=.error (11,114):=by
  rw[<-rM 6 _ _ _ _ _ (by decide)]
  kernel_rfl
 unfold eT
 rw[show(⟨[],[],[]⟩:Bk)=pc from rfl,h1]
theorem WL:eT nM=⟨0,0,[],26,115⟩:=by
 have h1:fB 0 none 0 nM pc=.ok ⟨[⟨⟨#[113]⟩,0,1⟩],[],[]⟩:=by
  rw[<-rM 6 _ _ _ _ _ (by decide)]
  kernel_rfl
 have h2:jS ⟨[⟨⟨#[113]⟩,0,1⟩],[],[]⟩ nM ⟨false,0,0⟩ nM []=.error 26:=by
  have hf:∀l,r8 ⟨[⟨⟨#[113]⟩,0,1⟩],[],[]⟩ nM 1 ⟨false,0,0⟩ [⟨bP,⟨#[120]⟩,[⟨⟨#[113]⟩,0⟩],0,0,26⟩] l=kX l ⟨1,⟨#[120]⟩,[0],0,false,0,0⟩ 26:=fun l=>by
   have e:r8 ⟨[⟨⟨#[113]⟩,0,1⟩],[],[]⟩ nM 1 ⟨false,0,0⟩ [⟨bP,⟨#[120]⟩,[⟨⟨#[113]⟩,0⟩],0,0,26⟩] l=rf (fun l=>.ok l) (kX l ⟨1,⟨#[120]⟩,[0],0,false,0,0⟩ 26):=by kernel_rfl
   rw[e]
   cases kX l ⟨1,⟨#[120]⟩,[0],0,false,0,0⟩ 26<;>rfl
  have hr:=Ef hf 5000 [] (by decide) (by decide)
  rw[<-Bu 3 _ _ _ (by decide)]
  have e3:r8 ⟨[⟨⟨#[113]⟩,0,1⟩],[],[]⟩ nM 3 ⟨false,0,0⟩ nM []=rf (r8 ⟨[⟨⟨#[113]⟩,0,1⟩],[],[]⟩ nM 1 ⟨false,0,0⟩ []) (iA (r8 ⟨[⟨⟨#[113]⟩,0,1⟩],[],[]⟩ nM 1 ⟨false,0,0⟩ [⟨bP,⟨#[120]⟩,[⟨⟨#[113]⟩,0⟩],0,0,26⟩]) 5000 []):=by
   have h1:r8 ⟨[⟨⟨#[113]⟩,0,1⟩],[],[]⟩ nM 3 ⟨false,0,0⟩ nM []=r8 ⟨[⟨⟨#[113]⟩,0,1⟩],[],[]⟩ nM 2 ⟨false,0,0⟩ [⟨aK,ByteArray.empty,[],5000,1,12⟩,⟨bP,⟨#[120]⟩,[⟨⟨#[113]⟩,0⟩],0,0,26⟩] []:=rfl
   rw[h1]
   conv=>lhs;unfold r8
   rw[zX rfl]
   rfl
  rw[e3,hr]
  rfl
 unfold eT
 rw[show(⟨[],[],[]⟩:Bk)=pc from rfl,h1]
 simp only[h2]
end
section
open Go.Ab
attribute [-simp] aN aD
theorem VG{h:AH}{R:AE->AH->Prop}{v:Nat}{q b:Int}{xo:AV}{a e:Int}(ho:h.obj v=some (aO [I q,I b,xo] 3 24))(hR:R (.ret (.cM [.agg [I q,I b,xo],I a,I e])) h):aH Pg [.cell 2 24,.tmp 3,.tmp 4] R [.ptr v 0,I a,I e] h:=HY ho hR
def Small(rows:List Row):Prop:=rows.length<=100000000/\∀r∈rows,r.args.length<=100000000/\r.num<=9223372036854775807
theorem fh.rt{h:AH}{x:AV}{rows:List Row}(a:fh h x rows)(s:Small rows):∃rs,RT h x rs/\rs.map (·.1)=rows/\∀y∈rs,y.1.num<=9223372036854775807:=by
 obtain⟨l,h1,h2,h3⟩:=a
 have hm:∀y∈l,y.1∈rows:=fun y hy=>by rw[<-h2];exact List.mem_map_of_mem hy
 refine⟨l,⟨h1.fl,fun y hy=>⟨(h3 y hy).fl,(s.2 _ (hm y hy)).1⟩,?_⟩,h2,fun y hy=>(s.2 _ (hm y hy)).2⟩
 have:=congrArg List.length h2
 have:=s.1
 simp only[zZ]at *;omega
section
variable {h:AH} {M:Nat->Prop} {R:AE->AH->Prop}
theorem BS{s:ByteArray}{rows:List Row}(hp:pX s=.ok rows)(hs:Small rows)(hR:∀xo yl h',Jo h' (eT rows) xo yl->Fr h h' (fun _=>False)->R (.ret (.cM [.agg [I (eT rows).q,I (eT rows).b,xo],I (eT rows).at_,I (eT rows).err])) h'):ay Pg 8 [Sb s] h M R:=by
 apply F8.aI
 unfold F8.n6
 have hv:=AH.cK h (aO ([Value.int .i64 0,.int .i64 0,.slice none 0 0].map AV.sc) 3 24)
 rw[aN]
 refine⟨rfl,?_⟩
 have f1:Fr h (h.alloc (aO ([Value.int .i64 0,.int .i64 0,.slice none 0 0].map AV.sc) 3 24)) (fun _=>False):=Fr.refl.alloc _
 generalize h.alloc (aO ([Value.int .i64 0,.int .i64 0,.slice none 0 0].map AV.sc) 3 24)=h1 at *
 obtain⟨v,qe⟩:∃v,v=h.next:=⟨_,rfl⟩
 rw[<-qe]at hv ⊢
 have ov:h1.obj v=some (aO [I 0,I 0,aV] 3 24):=hv
 have y_:∀{h':AH}{x y z:AV},h'.obj v=some (aO [I 0,I 0,aV] 3 24)->(h'.put v 0 [x,y,z]).obj v=some (aO [x,y,z] 3 24):=fun ho=>by rw[fF ho];rfl
 have zo:∀{h':AH}{cs:List AV},Fr h h' (fun _=>False)->Fr h (h'.put v 0 cs) fun _=>False:=fun hf=>hf.put (.inr (by omega))
 unfold F8.n5
 refine⟨fun _=>False,fun _ h=>h.elim,ME ?_⟩
 unfold Gf
 rw[hp]
 ·intro x h2 hx _ f2
  have cu:=f1.bO f2
  have qH:=f2.bQ ov
  obtain⟨rs,rt,nT,qA⟩:=hx.rt hs
  have oI:((0:Int) != 0)=false:=rfl
  simp only[dx,zA,zB,ah,F8.n4,cZ,oI,F8.n3,ao,zE,zD,zC,zH,F8.n1]
  refine⟨fun _=>False,fun _ h=>h.elim,RI rt qA fun xo yl h3 hf f3=>?_⟩
  rw[nT]at hf ⊢
  have nj:=f3.bQ qH
  have hxo:=hf.o.dy.one
  simp only[dx,zA,zB,ah,aD,nj,jf,cH]
  refine⟨⟨.inr (by omega),by show(true&&(true&&(cB xo&&true)))=true;rw[hxo.1];rfl,rfl,by simp⟩,?_⟩
  have fv:Fr h3 (h3.put v 0 [I (eT rows).q,I (eT rows).b,xo]) (·=v):=Fr.refl.put (.inl rfl)
  refine VG (y_ nj) (hR xo yl _ ⟨⟨hf.o.dy.fr fv fun id o ho ht e=>?_,fun y hy=>(hf.o.qs y hy).fr fv fun id o ho ht e=>?_⟩,hf.e,hf.g,hf.n⟩ (zo (cu.bO f3)))
  ·subst e;rw[nj]at ho;cases ho;exact absurd (ht rfl) (show(24:Nat)≠38 by decide)
  ·subst e;rw[nj]at ho;cases ho;exact absurd (ht rfl) (show(24:Nat)≠3 by decide)
theorem SZ:Small ss:=⟨by decide,by decide⟩
theorem SY:Small j8:=⟨by decide,by decide⟩
theorem SX:Small nM:=⟨by decide,by decide⟩
theorem NV(hR:∀h',Fr h h' (fun _=>False)->R (.ret (B true)) h'):ay Pg 5 [] h M R:=by
 apply F5.aI
 unfold F5.dH F5.cX
 refine⟨fun _=>False,fun _ h=>h.elim,BS Te SZ fun u7 Xr h1 Lq f1=>?_⟩
 rw[WN]at Lq ⊢
 have ZO:=Lq.o.dy.one
 simp only[dx,zA,zB,ah]
 refine gH (cs:=[I 1,I 3,u7]) (by show(true&&(true&&(cB u7&&true)))=true;rw[ZO.1];rfl) rfl rfl rfl (fun id hid=>.inr (zR f1.next hid)) fun v1 h2 f2 _ o1=>?_
 have cu:=f1.bO f2
 unfold F5.cV
 refine⟨fun _=>False,fun _ h=>h.elim,BS Td SY fun nZ yl2 h3 YL f3=>?_⟩
 rw[WM]at YL ⊢
 have ZN:=YL.o.dy.one
 have eO:=cu.bO f3
 simp only[dx,zA,zB,ah]
 refine gH (cs:=[I 0,I 0,nZ]) (by show(true&&(true&&(cB nZ&&true)))=true;rw[ZN.1];rfl) rfl rfl rfl (fun id hid=>.inr (zR eO.next hid)) fun v2 h4 f4 _ o2=>?_
 have kl:=eO.bO f4
 unfold F5.cN
 refine⟨fun _=>False,fun _ h=>h.elim,BS Tc SX fun Xs yl3 h5 YK f5=>?_⟩
 rw[WL]at YK ⊢
 have ZM:=YK.o.dy.one
 have qN:=kl.bO f5
 simp only[dx,zA,zB,ah]
 refine gH (cs:=[I 0,I 0,Xs]) (by show(true&&(true&&(cB Xs&&true)))=true;rw[ZM.1];rfl) rfl rfl rfl (fun id hid=>.inr (zR qN.next hid)) fun v3 h6 f6 _ o3=>?_
 have Dm:=qN.bO f6
 have f26:=((f3.bO f4).bO f5).bO f6
 have O_:=f26.bQ o1
 have fo:=Lq.o.bp (f2.bO f26)
 obtain⟨ya,yb,hy⟩:∃ya yb,Xr=[ya,yb]:=by
  have:=congrArg List.length Lq.e
  simp only[zZ,List.length_cons,List.length_nil]at this
  match Xr,this with
  |[a,b],_=>exact⟨a,b,rfl⟩
 subst hy
 have he:=Lq.e
 simp only[List.map_cons,List.map_nil,List.cons.injEq,zI]at he
 obtain⟨hea,Uz⟩:=he
 have ha:fo.dy=fo.dy:=rfl
 have fin:=hR h6 Dm
 have ga:([ya,yb]:List (bI×AV))[0]?=some ya:=rfl
 have gb:([ya,yb]:List (bI×AV))[1]?=some yb:=rfl
 simp only[F5.cq,F5.cj,dl,zT,zE,zD,zC,zI,cZ,show((0:Int) != 0)=false from rfl,F5.bW,cD,if_false,F5.bT,F5.bY,F5.bZ,show((114:Int) != 114)=false from rfl,F5.bD,F5.bG,show((11:Int) != 11)=false from rfl,F5.bE,F5.bC,show((115:Int) != 115)=false from rfl,F5.bz,F5.bu,show((26:Int) != 26)=false from rfl,F5.bg,F5.aZ,ao,zH,F5.bn,al,aF,O_,aB,zG,zA,zB,ah,dD,show((1:Int)==1)=true from rfl,F5.a_,zS,zF,show((3:Int)==3)=true from rfl,F5.aQ,zV,F5.aU,fo.dy.len.1,fo.dy.len.2,List.length_cons,List.length_nil,show(((0+1+1:Nat):Int)==2)=true from rfl,F5.aP,F5.n9]
 refine dC (i:=0) (k:=3) fo.dy hG ga (by omega) rfl fun _=>?_
 rw[hea]
 simp only[dD,show((2:Int)==2)=true from rfl,F5.n8,cD,zV,F5.n7,dl,zS,zD,zF,zC,zI,al,aF,O_,aB,zG,zA,zB,ah]
 refine dC (i:=1) (k:=4) fo.dy hG gb (by omega) rfl fun _=>?_
 rw[Uz]
 have U6:∀{t:TypeId}{c:Bool}{x y:Int}{K:AV->Prop},aa Pg .eql t c (U x) (U y) K=K (B (x==y)):=fun{t c x y K}=>by simp[aa]
 simp only[F5.n6,cD,zV,F5.n5,dl,zS,zD,zF,zC,zI,al,aF,O_,aB,zG,zA,zB,ah]
 refine dC (i:=1) (k:=5) fo.dy hG gb (by omega) rfl fun _=>?_
 rw[Uz]
 simp only[U6,show((4:Int)==4)=true from rfl,F5.n4,cD,zV,F5.n3,dl,zS,zD,zF,zC,zI,al,aF,O_,aB,zG,zA,zB,ah]
 refine dC (i:=1) (k:=6) fo.dy hG gb (by omega) rfl fun _=>?_
 rw[Uz]
 simp only[U6,show((4:Int)==4)=true from rfl,F5.n2,cD,zV,F5.n1]
 simpa using fin
end
end
end Go.Proofs.YtjehibknlmehmaaGreatDoor
