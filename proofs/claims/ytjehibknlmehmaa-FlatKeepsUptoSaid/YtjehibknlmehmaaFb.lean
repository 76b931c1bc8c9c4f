/- What is looked at is good; flat writes out what the plain form says. No condition. -/
import Derived.Test.YtjehibknlmehmaaFa
set_option maxRecDepth 100000
namespace Go.Proofs.Ytjehibknlmehmaa
section
open Go.Ab
structure jX (a b:Bk):Prop where
 q:∃l,b.qs=a.qs++l
 bb:∃l,b.bs=a.bs++l
 d:gW a b
theorem jX.refl{a:Bk}:jX a a:=⟨⟨[],by simp⟩,⟨[],by simp⟩,gW.refl⟩
theorem jX.trans{a b c:Bk}(h1:jX a b)(h2:jX b c):jX a c:=by
 obtain⟨⟨q1,e1⟩,⟨b1,e2⟩,d1⟩:=h1
 obtain⟨⟨q2,e3⟩,⟨b2,e4⟩,d2⟩:=h2
 exact⟨⟨q1++q2,by rw[e3,e1,List.append_assoc]⟩,⟨b1++b2,by rw[e4,e2,List.append_assoc]⟩,d1.trans d2⟩
structure lL (bk:Bk):Prop where
 i:kF bk
 a:∀d∈bk.ds,cu d.name=0/\tz d.params=false
theorem CU{l m:List fZ}{n:ByteArray}{g:fZ}(h:eF l n=some g):eF (l++m) n=some g:=by
 unfold eF at h ⊢
 rw[List.find?_append,h];rfl
theorem yg{l m:List fZ}{a:Arg}(h:gB l a=0):gB (l++m) a=0:=by
 unfold gB at h ⊢
 cases hr:eF l a.name with
 |none=>rw[hr]at h;cases h
 |some g=>rw[hr]at h;rw[CU hr];exact h
theorem lL.modify{bk:Bk}(a:lL bk){k:Nat}{f:bY->bY}(hf:∀d,core (f d)=core d)(hd:∀d∈bk.ds,0<=(f d).depth/\(f d).depth<=100/\0<=(f d).ops/\(f d).ops<=4097):lL { bk with ds:=bk.ds.modify k f }/\jX bk { bk with ds:=bk.ds.modify k f }:=by
 obtain⟨h1,h2⟩:=a.i.modify (k:=k) hf hd
 refine⟨⟨h1,fun d h=>?_⟩,⟨[],by simp⟩,⟨[],by simp⟩,h2⟩
 rcases mem_modify h with h3 |⟨e,h3,rfl⟩
 ·exact a.a d h3
 ·rw[show(f e).name=e.name from congrArg (·.1) (hf e),show(f e).params=e.params from congrArg (·.2.1) (hf e)]
  exact a.a e h3
theorem uV{bk:Bk}{n:ByteArray}{d:bY}(h:eB bk.ds n=some d):∃k:Nat,bk.ds[k]?=some d/\d.name=n:=by
 have h1:=List.mem_of_find?_eq_some h
 have h2:=List.find?_some h
 obtain⟨k,hk⟩:=List.mem_iff_getElem?.1 h1
 exact⟨k,hk,by simpa using h2⟩
theorem N_{bk:Bk}(a:kF bk){k:Nat}{d:bY}(h:bk.ds[k]?=some d):eB bk.ds d.name=some d:=by
 cases hd:eB bk.ds d.name with
 |none=>exact absurd rfl (qX hd d (zP h))
 |some d'=>
  obtain⟨k',h1,h2⟩:=uV hd
  have:=Ir a.nd h h1 h2.symm
  subst this
  rw[h]at h1;exact h1.symm
def u_(bk:Bk)(k:Nat)(r:Row):Prop:=(eB bk.ds r.name=none/\0<cu r.name/\(r.args.length:Int)=cu r.name)\/∃j d,j<k/\bk.ds[j]?=some d/\d.name=r.name/\r.args.length=d.params.length/\cu r.name=0
inductive GB (bk:Bk) (k:Nat) (ps:List ByteArray):List Row->Prop
 |nil:GB bk k ps []
 |S5 {r:Row} {l:List Row} (h0:r.kind=cQ) (h1:r.rows=0) (h2:u_ bk k r) (h3:∀a∈r.args,eV a.name ps=true) (h4:GB bk k ps l):GB bk k ps (r::l)
 |li {r:Row} {l:List Row} (h0:r.kind=bj) (h1:0<=r.rows/\r.rows<=l.length) (h2:GB bk k ps (l.take r.rows.toNat)) (h3:GB bk k ps (l.drop r.rows.toNat)):GB bk k ps (r::l)
structure Ox (bk:Bk) (r:Row):Prop where
 u:r.kind=cQ->u_ bk bk.ds.length r/\∀a∈r.args,gB bk.qs a=0
 i:r.kind=fK->∃g,eF bk.bs r.name=some g/\0<=r.num/\(g.size<63->r.num<2^g.size.toNat)
 m:r.kind=cD->∃a b,r.args=[a,b]/\gB bk.qs a=0/\gB bk.bs b=0
 s:r.kind=dz->∃a,r.args=[a]/\gB bk.qs a=0
inductive GO (bk:Bk):List Row->Prop
 |nil:GO bk []
 |cons {r:Row} {l:List Row} (h0:0<=r.rows/\r.rows<=l.length) (h1:Ox bk r) (h2:r.kind=bj\/r.kind=fK->GO bk (l.take r.rows.toNat)) (h3:GO bk (l.drop r.rows.toNat)):GO bk (r::l)
def Jl(bk:Bk)(L:List Row)(k:Nat):Prop:=∀d,bk.ds[k]?=some d->∃a n:Nat,d.from_=a/\d.GZ=a+n/\a+n<=L.length/\GB bk k d.params ((L.drop a).take n)
theorem y6{f:Arg->Int}:∀{l:List Arg},fN f l=0->∀a∈l,f a=0
 |[],_,a,h=>by cases h
 |b::l,h,a,ha=>by
  unfold fN at h
  split at h
  ·rename_i hb;exact absurd h hb
  ·rename_i hb
   rcases List.mem_cons.1 ha with rfl |ha
   ·exact Classical.not_not.1 hb
   ·exact y6 h a ha
theorem jX.VF{a b:Bk}(m:jX a b){k:Nat}{d:bY}(h:a.ds[k]?=some d):∃d',b.ds[k]?=some d'/\core d'=core d:=m.d.at_ h
def Tz(bf:Bk)(own:Option Nat):Nat:=own.getD bf.ds.length
theorem CK{bk bR bf:Bk}{own:Option Nat}{r:Row}(a:lL bk)(ho:∀k,own=some k->k+1=bk.ds.length)(h:ka bk own r=.ok bR)(hm:jX bk bf)(hf:lL bf) :
  u_ bf (Tz bf own) r/\(own=none->∀x∈r.args,gB bf.qs x=0)/\∀k,own=some k->∀d,bf.ds[k]?=some d->∀x∈r.args,eV x.name d.params=true:=by
 unfold ka at h
 split at h
 ·cases h
 rename_i h1
 split at h
 ·cases h
 rename_i h2
 split at h
 ·cases h
 rename_i h3
 split at h
 ·cases h
 rename_i h4
 have h4:=y6 (Classical.not_not.1 h4)
 have h3:=Classical.not_not.1 h3
 refine⟨?_,?_,?_⟩
 ·unfold gF at h2 h3
  cases hd:eB bk.ds r.name with
  |none=>
   rw[hd]at h2 h3
   simp only at h2 h3
   have hr:=(xD r.name).1
   refine .inl ⟨?_,by omega,h3⟩
   cases yO:eB bf.ds r.name with
   |none=>rfl
   |some d'=>
    obtain⟨k,g1,g2⟩:=uV yO
    have:=(hf.a d' (zP g1)).1
    rw[g2]at this;exact absurd this h2
  |some d=>
   rw[hd]at h2 h3
   simp only at h2 h3
   obtain⟨j,g1,g2⟩:=uV hd
   have g3:=(a.a d (zP g1)).1
   rw[g2]at g3
   obtain⟨d',g4,g5⟩:=hm.VF g1
   have n':d'.name=d.name:=congrArg (·.1) g5
   have p':d'.params=d.params:=congrArg (·.2.1) g5
   refine .inr ⟨j,d',?_,g4,n'.trans g2,?_,g3⟩
   ·cases own with
    |none=>exact(zM.1 g4).1
    |some k=>
     have hk:=ho k rfl
     have hj:=(zM.1 g1).1
     have:j≠k:=fun e=>by
      subst e
      apply h1
      unfold lW gC
      simp only[Option.bind_some,g1,g2,decide_true]
     unfold Tz;simp only[Option.getD_some];omega
   ·rw[p']
    cases hw:d.whole with
    |true=>rw[hw]at h3;simp only[zV]at h3;omega
    |false=>rw[hw]at h2;simp only[zE,if_false]at h2;exact absurd g3 h2
 ·rintro rfl x hx
  obtain⟨l,e⟩:=hm.q
  rw[e]
  exact yg (h4 x hx)
 ·rintro k rfl d hd x hx
  have hk:=ho k rfl
  have aR:k<bk.ds.length:=by omega
  obtain⟨d',g4,g5⟩:=hm.VF (zJ aR)
  rw[hd]at g4;cases g4
  have p':d.params=bk.ds[k].params:=congrArg (·.2.1) g5
  have:=h4 x hx
  unfold eZ gC at this
  simp only[Option.bind_some,zJ aR]at this
  rw[p']
  split at this
  ·cases this
  ·split at this
   ·assumption
   ·cases this
theorem BR{bk:Bk}{l l':List fZ}{r:Row}(hd:fA bk l 64 r=.ok l'):∃m,l'=l++m:=by
 unfold fA at hd
 split at hd
 ·cases hd
 split at hd
 ·cases hd
 split at hd
 ·cases hd
 cases hd
 exact⟨_,rfl⟩
theorem CS{bk bR:Bk}{own:Option Nat}{i:Int}{r:Row}(a:lL bk)(hl:r.args.length<=100000000)(h:fC bk own i r=.ok bR):jX bk bR/\lL bR:=by
 obtain⟨b1,x1,_,_,_⟩:=nM a.i hl h
 have same:∀e,kY e bk=.ok bR->bR=bk:=fun e h=>by
  unfold kY at h
  split at h<;>cases h
  rfl
 have fin:bR=bk->jX bk bR/\lL bR:=fun e=>by subst e;exact⟨jX.refl,a⟩
 unfold fC at h
 split at h
 ·cases hd:fA bk bk.qs 64 r with
  |error e=>rw[hd]at h;cases h
  |ok l=>rw[hd]at h;cases h;exact⟨⟨BR hd,⟨[],by simp⟩,x1⟩,⟨b1,a.a⟩⟩
 split at h
 ·cases hd:fA bk bk.bs 64 r with
  |error e=>rw[hd]at h;cases h
  |ok l=>rw[hd]at h;cases h;exact⟨⟨⟨[],by simp⟩,BR hd,x1⟩,⟨b1,a.a⟩⟩
 split at h
 ·have hd:=h
  unfold pz at h
  split at h
  ·cases h
  split at h
  ·cases h
  split at h
  ·cases h
  split at h
  ·cases h
  rename_i pd
  obtain⟨_,_,e,ht⟩:=HL a.i hl hd
  subst e
  refine⟨⟨⟨[],by simp⟩,⟨[],by simp⟩,x1⟩,⟨b1,fun d hd=>?_⟩⟩
  rcases List.mem_append.1 hd with hd |hd
  ·exact a.a d hd
  ·have:=List.mem_singleton.1 hd
   subst this
   have h1:=(CM ht).2.2.2
   have h2:=(xD r.name).1
   exact⟨by simp only;omega,by simpa using pd⟩
 split at h
 ·split at h
  ·cases h
  ·cases h;exact fin rfl
 split at h
 ·unfold tU at h
  split at h
  ·cases h
  ·split at h
   ·cases h
   ·cases h;exact fin rfl
 split at h
 ·unfold ka at h
  split at h
  ·cases h
  split at h
  ·cases h
  split at h
  ·cases h
  split at h
  ·cases h
  split at h
  ·cases h
  split at h
  ·cases h
  cases h
  unfold jV at b1 x1 ⊢
  cases own with
  |none=>exact fin rfl
  |some k=>
   refine⟨⟨⟨[],by simp⟩,⟨[],by simp⟩,x1⟩,⟨b1,fun d hd=>?_⟩⟩
   rcases mem_modify hd with h3 |⟨e,h3,rfl⟩
   ·exact a.a d h3
   ·exact a.a e h3
 split at h
 ·unfold kj at h
  split at h
  ·split at h
   ·cases h
   ·exact fin (same _ h)
  ·cases h
 split at h
 ·unfold mi at h
  split at h
  ·exact fin (same _ h)
  ·cases h
 cases h
 exact fin rfl
theorem HH{e:Int}{bk bR:Bk}(h:kY e bk=.ok bR):e=0:=by
 unfold kY at h
 split at h
 ·cases h
 ·rename_i h0;exact Classical.not_not.1 h0
theorem JK{bk bR bf:Bk}{i:Int}{r:Row}(a:lL bk)(h:fC bk none i r=.ok bR)(hm:jX bk bf)(hf:lL bf):Ox bf r:=by
 have n1:cQ≠ch:=by decide
 have n2:cQ≠cZ:=by decide
 have n3:cQ≠bJ:=by decide
 have n4:cQ≠bj:=by decide
 have n5:cQ≠fK:=by decide
 have i1:fK≠ch:=by decide
 have i2:fK≠cZ:=by decide
 have i3:fK≠bJ:=by decide
 have i4:fK≠bj:=by decide
 have m1:cD≠ch:=by decide
 have m2:cD≠cZ:=by decide
 have m3:cD≠bJ:=by decide
 have m4:cD≠bj:=by decide
 have m5:cD≠fK:=by decide
 have m6:cD≠cQ:=by decide
 have r1:dz≠ch:=by decide
 have r2:dz≠cZ:=by decide
 have r3:dz≠bJ:=by decide
 have r4:dz≠bj:=by decide
 have r5:dz≠fK:=by decide
 have r6:dz≠cQ:=by decide
 have r7:dz≠cD:=by decide
 unfold fC at h
 refine⟨fun k=>?_,fun k=>?_,fun k=>?_,fun k=>?_⟩
 ·rw[k,zW n1,zW n2,zW n3,zW n4,zW n5,zX rfl]at h
  obtain⟨h1,h2,_⟩:=CK a (fun k e=>by cases e) h hm hf
  exact⟨h1,h2 rfl⟩
 ·rw[k,zW i1,zW i2,zW i3,zW i4,zX rfl]at h
  unfold tU at h
  split at h
  ·cases h
  ·rename_i g hg
   split at h
   ·cases h
   ·rename_i hn
    obtain⟨l,e⟩:=hm.bb
    exact⟨g,by rw[e];exact CU hg,by omega,fun hs=>by
     have:¬(g.size<63/\2^g.size.toNat<=r.num):=fun h=>hn (.inr h)
     have h2:¬2^g.size.toNat<=r.num:=fun h=>this ⟨hs,h⟩
     exact Int.not_le.1 h2⟩
 ·rw[k,zW m1,zW m2,zW m3,zW m4,zW m5,zW m6,zX rfl]at h
  unfold kj at h
  split at h
  ·rename_i x y hxy
   split at h
   ·cases h
   ·rename_i h0
    obtain⟨l,e⟩:=hm.bb
    obtain⟨l',e'⟩:=hm.q
    exact⟨x,y,hxy,by rw[e'];exact yg (Classical.not_not.1 h0),by rw[e];exact yg (HH h)⟩
  ·cases h
 ·rw[k,zW r1,zW r2,zW r3,zW r4,zW r5,zW r6,zW r7,zX rfl]at h
  unfold mi at h
  split at h
  ·rename_i x hx
   obtain⟨l',e'⟩:=hm.q
   exact⟨x,hx,by rw[e'];exact yg (HH h)⟩
  ·cases h
theorem MF{bk bR:Bk}{own:Option Nat}{i:Int}{r:Row}(k:r.kind=cQ)(h:fC bk own i r=.ok bR):ka bk own r=.ok bR:=by
 have n1:cQ≠ch:=by decide
 have n2:cQ≠cZ:=by decide
 have n3:cQ≠bJ:=by decide
 have n4:cQ≠bj:=by decide
 have n5:cQ≠fK:=by decide
 unfold fC at h
 rwa [k,zW n1,zW n2,zW n3,zW n4,zW n5,zX rfl]at h
def mh(L:List Row)(a n:Nat):List Row:=(L.drop a).take n
theorem Ph{L:List Row}{a n:Nat}{r:Row}(h:L[a]?=some r):mh L a (n+1)=r::mh L (a+1) n:=by
 obtain⟨h1,h2⟩:=zM.1 h
 unfold mh
 rw[List.drop_eq_getElem_cons h1,h2,List.take_succ_cons]
theorem uB{L:List Row}{a n k:Nat}(h:k<=n):(mh L a n).take k=mh L a k:=by
 unfold mh
 rw[List.take_take,Nat.min_eq_left h]
theorem zp{L:List Row}{a n k:Nat}:(mh L a n).drop k=mh L (a+k) (n-k):=by
 unfold mh
 rw[List.drop_take,List.drop_drop]
theorem B8{L:List Row}{a n:Nat}(h:a+n<=L.length):(mh L a n).length=n:=by
 unfold mh
 rw[yA,List.length_drop];omega
theorem oC{rs:List (Row×AV)}{a n:Nat}:sg rs a n=mh (rs.map (·.1)) a n:=by
 unfold sg mh
 rw[List.map_take,List.map_drop]
theorem uK{L:List Row}(hL:∀r∈L,r.args.length<=100000000)(n:Nat):∀{deep:Nat}{own:Option Nat}{i:Nat}{bk bR:Bk}(_:i+n<=L.length)(_:lL bk)(_:∀k,own=some k->k+1=bk.ds.length/\0<deep)(_:eN deep own i (mh L i n) bk=.ok bR),
  lL bR/\jX bk bR/\(0<deep->bR.ds.length=bk.ds.length)/\∀bf,jX bR bf->lL bf->(own=none->GO bf (mh L i n))/\(∀k d,own=some k->bf.ds[k]?=some d->GB bf k d.params (mh L i n))/\∀k,bk.ds.length<=k->k<bR.ds.length->Jl bf L k:=by
 induction n using Nat.strongRecOn with
 |ind n ih=>
 intro deep own i bk bR hn a ho h
 cases n with
 |zero=>
  have e0:mh L i 0=[]:=rfl
  rw[e0,jf]at h
  cases h
  exact⟨a,jX.refl,fun _=>rfl,fun bf _ _=>⟨fun _=>.nil,fun _ _ _ _=>.nil,fun k h1 h2=>by omega⟩⟩
 |succ m=>
  obtain⟨r,hr⟩:∃r,L[i]?=some r:=⟨L[i]'(by omega),zJ _⟩
  rw[Ph hr,jG,B8 (by omega)]at h
  rw[Ph hr]
  split at h
  ·cases h
  rename_i hf
  obtain⟨f0,f00,f1,f2,_,f3,f4⟩:=ug (Classical.not_not.1 hf)
  split at h
  ·cases h
  rename_i lm h1
  split at h
  ·cases h
  rename_i eT h2
  have yJ:=hL r (zP hr)
  obtain⟨b1,x1,g1,g2,g3⟩:=nM a.i yJ h1
  obtain⟨m1,a1⟩:=CS a yJ h1
  obtain⟨k,hk⟩:∃k:Nat,r.rows=k:=⟨r.rows.toNat,by omega⟩
  have lj:k<=m:=by omega
  rw[hk,zY,uB lj,zp]at h
  rw[hk,zY,uB lj]at h2
  have iB:∀j,(if r.kind=bJ then some bk.ds.length else own)=some j->j+1=lm.ds.length/\0<deep+1:=fun j hj=>by
   by_cases kg:r.kind=bJ
   ·rw[zX kg]at hj
    cases hj
    rw[g3 kg]
    exact⟨by simp,by omega⟩
   ·rw[zW kg]at hj
    exact⟨by rw[g2 kg];exact(ho j hj).1,by omega⟩
  obtain⟨a2,m2,l2,q2⟩:=ih k (by omega) (by omega) a1 iB h2
  have l2:=l2 (by omega)
  have key:∀kD,lL kD->jX eT kD->kD.ds.length=eT.ds.length->eN deep own (i+1+k) (mh L (i+1+k) (m-k)) kD=.ok bR->lL bR/\jX bk bR/\(0<deep->bR.ds.length=bk.ds.length)/\∀bf,jX bR bf->lL bf->(own=none->GO bf (r::mh L (i+1) m))/\(∀k d,own=some k->bf.ds[k]?=some d->GB bf k d.params (r::mh L (i+1) m))/\∀k,bk.ds.length<=k->k<bR.ds.length->Jl bf L k:=fun kD a3 m3 l3 h3=>by
   have UJ:∀j,own=some j->j+1=kD.ds.length/\0<deep:=fun j hj=>by
    obtain⟨z1,z2⟩:=ho j hj
    have kg:r.kind≠bJ:=fun e=>by
     have:=f3 (by omega)
     unfold pH at this
     rw[e]at this
     simp at this
    exact⟨by rw[l3,l2,g2 kg];exact z1,z2⟩
   obtain⟨a4,m4,l4,q4⟩:=ih (m-k) (by omega) (by omega) a3 UJ h3
   refine⟨a4,m1.trans (m2.trans (m3.trans m4)),fun hd=>?_,fun bf mf af=>?_⟩
   ·have kg:r.kind≠bJ:=fun e=>by
     have:=f3 (by omega)
     unfold pH at this
     rw[e]at this
     simp at this
    rw[l4 hd,l3,l2,g2 kg]
   ·obtain⟨u1,u2,u3⟩:=q2 bf (m3.trans (m4.trans mf)) af
    obtain⟨v1,v2,v3⟩:=q4 bf mf af
    refine⟨fun jg=>?_,fun j d jg hd=>?_,fun j Yf Fs=>?_⟩
    ·subst jg
     refine .cons ⟨f1,by rw[B8 (by omega)];omega⟩ (JK a h1 (m1.trans (m2.trans (m3.trans (m4.trans mf)))) af) (fun yK=>?_) ?_
     ·have kg:r.kind≠bJ:=fun e=>by
       rw[e]at yK
       exact yK.elim (by decide) (by decide)
      rw[hk,zY,uB lj]
      exact u1 (zW kg)
     ·rw[hk,zY,zp]
      exact v1 rfl
    ·have yK:=f4 (by rw[jg];rfl)
     have kg:r.kind≠bJ:=fun e=>by
      rw[e]at yK
      exact yK.elim (by decide) (by decide)
     have w:=v2 j d jg hd
     rcases yK with ku |kr
     ·have hb:kl r.kind=false:=by rw[ku];decide
      have hz:r.rows=0:=f00.elim (fun h=>by rw[hb]at h;cases h) id
      have KM:k=0:=by omega
      subst KM
      obtain⟨z1,_,z3⟩:=CK a (fun k e=>(ho k e).1) (MF ku h1) (m1.trans (m2.trans (m3.trans (m4.trans mf)))) af
      have z1:u_ bf j r:=by rw[jg]at z1;exact z1
      exact .S5 ku hz z1 (z3 j jg d hd) w
     ·refine .li kr ⟨f1,by rw[B8 (by omega)];omega⟩ ?_ ?_
      ·rw[hk,zY,uB lj]
       exact u2 j d (by rw[zW kg];exact jg) hd
      ·rw[hk,zY,zp]
       exact w
    ·by_cases KN:kD.ds.length<=j
     ·exact v3 j KN Fs
     ·by_cases kg:r.kind=bJ
      ·have e1:=g3 kg
       have WW:lm.ds.length=bk.ds.length+1:=by rw[e1];simp
       have hj4:j=bk.ds.length:=by omega
       subst hj4
       intro d hd
       have Dq:lm.ds[bk.ds.length]?=some ⟨r.name,r.args.map (·.name),i+1,i+1+r.rows,1,0,false⟩:=by rw[e1];simp
       obtain⟨d',g4,g5⟩:=(m2.trans (m3.trans (m4.trans mf))).VF Dq
       rw[hd]at g4;cases g4
       refine⟨i+1,k,?_,?_,by omega,u2 _ d (zX kg) hd⟩
       ·have:=congrArg (·.2.2.1) g5
        simp only[core]at this
        omega
       ·have:=congrArg (·.2.2.2) g5
        simp only[core]at this
        omega
      ·have:=g2 kg
       omega
  by_cases kg:r.kind=bJ
  ·rw[zX kg]at h
   have hs:oS (mh L (i+1) k):=(po _ rfl (fun r' Hj=>hL r' (List.mem_of_mem_drop (List.mem_of_mem_take Hj))) a1.i h2).2.2
   have hb:=qf (ds:=eT.ds) (fun d hd=>(a2.i.ok.ds d hd).2.2.2) hs 0 (by omega)
   obtain⟨a3,m3⟩:=a2.modify (k:=bk.ds.length) (f:=fun d=>{ d with whole:=true,ops:=countP eT.ds (mh L (i+1) k) 0 }) (fun _=>rfl) (fun d hd=>by have:=a2.i.ok.ds d hd;simp only;omega)
   exact key _ a3 m3 (by simp) h
  ·rw[zW kg]at h
   exact key _ a2 jX.refl rfl h
end
section
open Go.Ab
structure gJ where
 is:Bool
 cN:Int
 value:Int
abbrev OL:=List (dS×Int)
def jN(k:Int)(n:ByteArray)(qs:List Int)(b:Int)(w:gJ):dS:=⟨k,n,qs,b,w.is,w.cN,w.value⟩
def jz(l:OL)(o:dS)(pl:Int):Except Int OL:=if l.length=4096 then .error pl else .ok (l++[(o,pl)])
def fP(f:OL->Except Int OL):Nat->OL->Except Int OL
 |0,l=>.ok l
 |n+1,l=>match f l with |.error e=>.error e |.ok l'=>if l'.length=l.length then .ok l' else fP f n l'
def mX(env:List (ByteArray×Int))(n:ByteArray):Int:=match env.find? (fun x=>decide (x.1=n)) with |some x=>x.2 |none=>0
def yc(l:List bY)(n:ByteArray):Option Nat:=l.findIdx? fun d=>decide (d.name=n)
def rV(L:List Row)(d:bY):List Row:=mh L d.from_.toNat (d.GZ-d.from_).toNat
def kJ(f:OL->Except Int OL):Except Int OL->Except Int OL
 |.error e=>.error e
 |.ok l=>f l
def bT (bk : Bk) (L : List Row) (k : Nat) (env : List (ByteArray × Int)) (w : gJ) (pl : Int) (rows : List Row) (l : OL) : Except Int OL :=
  match rows with
  | [] => .ok l
  | r :: rest =>
    kJ (fun l' => bT bk L k env w pl (rest.drop r.rows.toNat) l')
      (if r.kind = bj then fP (fun l' => bT bk L k env w pl (rest.take r.rows.toNat) l') r.num.toNat l
       else match yc bk.ds r.name with
        | none => jz l (jN 1 r.name (r.args.map fun a => mX env a.name) 0 w) pl
        | some i => match bk.ds[i]? with
          | none => .ok l
          | some d => if d.ops = 0 then .ok l else if i < k then bT bk L i (d.params.zip (r.args.map fun a => mX env a.name)) w pl (rV L d) l else .ok l)
termination_by (k, rows.length)
decreasing_by
  all_goals first
    | exact Prod.Lex.right _ (by simp only [List.length_take, List.length_drop, List.length_cons]; omega)
    | exact Prod.Lex.left _ _ (by assumption)
def iU(bk:Bk)(L:List Row)(k:Nat)(n:ByteArray)(qs:List Int)(w:gJ)(pl:Int)(l:OL):Except Int OL:=
 match yc bk.ds n with
 |none=>jz l (jN 1 n qs 0 w) pl
 |some i=>match bk.ds[i]? with
  |none=>.ok l
  |some d=>if d.ops=0 then .ok l else if i<k then bT bk L i (d.params.zip qs) w pl (rV L d) l else .ok l
theorem xB{bk:Bk}{L:List Row}{k:Nat}{env:List (ByteArray×Int)}{w:gJ}{pl:Int}{l:OL}:bT bk L k env w pl [] l=.ok l:=by rw[bT]
theorem uX{bk:Bk}{L:List Row}{k:Nat}{env:List (ByteArray×Int)}{w:gJ}{pl:Int}{r:Row}{rest:List Row}{l:OL}:bT bk L k env w pl (r::rest) l =
  kJ (bT bk L k env w pl (rest.drop r.rows.toNat)) (if r.kind=bj then fP (bT bk L k env w pl (rest.take r.rows.toNat)) r.num.toNat l else iU bk L k r.name (r.args.map fun a=>mX env a.name) w pl l):=by
 conv=>lhs;rw[bT]
 all_goals rfl
def fE(l:List fZ)(a:Arg):Int:=(match eF l a.name with |some g=>g.from_ |none=>0)+a.index
def gA(g:fZ):Int:=IntKind.u64.wrap (IntKind.u64.wrap (IntKind.u64.wrap (1*2^(min g.size.toNat 64))-1)*2^(min g.from_.toNat 64))
def valOf(g:fZ)(n:Int):Int:=IntKind.u64.wrap (IntKind.u64.wrap n*2^(min g.from_.toNat 64))
def jW(a b:Int):Int:=IntKind.u64.wrap (BitVec.ofInt IntKind.u64.bits a &&& BitVec.ofInt IntKind.u64.bits b).toNat
def vp(a b:Int):Int:=IntKind.u64.wrap (BitVec.ofInt IntKind.u64.bits a |||BitVec.ofInt IntKind.u64.bits b).toNat
def mZ(w:gJ)(g:fZ)(n:Int):Option gJ:=if jW w.value (gA g)≠jW (valOf g n) w.cN then none else some ⟨true,vp w.cN (gA g),vp w.value (valOf g n)⟩
def gU (bk : Bk) (L : List Row) (w : gJ) (rows : List Row) (l : OL) : Except Int OL :=
  match rows with
  | [] => .ok l
  | r :: rest =>
    kJ (fun l' => gU bk L w (rest.drop r.rows.toNat) l')
      (if r.kind = bj then fP (fun l' => gU bk L w (rest.take r.rows.toNat) l') r.num.toNat l
       else if r.kind = fK then (match eF bk.bs r.name with
        | none => .ok l
        | some g => match mZ w g r.num with
          | none => .ok l
          | some w' => gU bk L w' (rest.take r.rows.toNat) l)
       else if r.kind = cQ then iU bk L bk.ds.length r.name (r.args.map (fE bk.qs)) w r.place l
       else if r.kind = cD then (match r.args with
        | [a, b] => jz l (jN 2 ByteArray.empty [fE bk.qs a] (fE bk.bs b) w) r.place
        | _ => .ok l)
       else if r.kind = dz then jz l (jN 3 ByteArray.empty (r.args.map (fE bk.qs)) 0 w) r.place
       else .ok l)
termination_by rows.length
decreasing_by all_goals (simp only [List.length_take, List.length_drop, List.length_cons]; omega)
def uH (bk : Bk) (L : List Row) (w : gJ) (r : Row) (body : List Row) (l : OL) : Except Int OL :=
  if r.kind = bj then fP (gU bk L w body) r.num.toNat l
  else if r.kind = fK then (match eF bk.bs r.name with
   | none => .ok l
   | some g => match mZ w g r.num with
     | none => .ok l
     | some w' => gU bk L w' body l)
  else if r.kind = cQ then iU bk L bk.ds.length r.name (r.args.map (fE bk.qs)) w r.place l
  else if r.kind = cD then (match r.args with
   | [a, b] => jz l (jN 2 ByteArray.empty [fE bk.qs a] (fE bk.bs b) w) r.place
   | _ => .ok l)
  else if r.kind = dz then jz l (jN 3 ByteArray.empty (r.args.map (fE bk.qs)) 0 w) r.place
  else .ok l
theorem um{bk:Bk}{L:List Row}{w:gJ}{l:OL}:gU bk L w [] l=.ok l:=by rw[gU]
theorem uU{bk:Bk}{L:List Row}{w:gJ}{r:Row}{rest:List Row}{l:OL}:gU bk L w (r::rest) l=kJ (gU bk L w (rest.drop r.rows.toNat)) (uH bk L w r (rest.take r.rows.toNat) l):=by
 conv=>lhs;rw[gU]
 all_goals rfl
structure QQ where
 q:Int
 b:Int
 ops:List dS
 at_:Int
 err:Int
def dj(L:List Row):QQ:=
 match eN 0 none 0 L ⟨[],[],[]⟩ with
 |.error (pl,e)=>⟨0,0,[],pl,e⟩
 |.ok bk=>match gU bk L ⟨false,0,0⟩ L [] with
  |.error pl=>⟨0,0,[],pl,115⟩
  |.ok l=>
   if (gQ (aK bk.qs) (aK bk.bs) (l.map (·.1))).2≠0 then⟨0,0,[],(match l[(gQ (aK bk.qs) (aK bk.bs) (l.map (·.1))).1.toNat]? with |some x=>x.2 |none=>0),(gQ (aK bk.qs) (aK bk.bs) (l.map (·.1))).2⟩
   else⟨aK bk.qs,aK bk.bs,l.map (·.1),0,0⟩
theorem I2{l:List bY}{n:ByteArray}(h:eB l n=none):yc l n=none:=by
 unfold yc
 rw[List.findIdx?_eq_none_iff]
 intro d hd
 have:=qX h d hd
 simpa using this
theorem Ob{bk:Bk}(a:kF bk){k:Nat}{d:bY}(h:bk.ds[k]?=some d):yc bk.ds d.name=some k:=by
 unfold yc
 rw[List.findIdx?_eq_some_iff_getElem]
 obtain⟨h1,h2⟩:=zM.1 h
 refine⟨h1,by rw[h2];simp,fun j hj=>?_⟩
 have hp:=List.pairwise_iff_getElem.1 a.nd j k (by simpa using Nat.lt_trans hj h1) (by simpa using h1) hj
 simp only[List.getElem_map]at hp
 rw[h2]at hp
 simpa using hp
end
section
open Go.Ab
attribute [-simp] aX aF
def TQ(t:TypeId):Bool:=t==66||t==49||t==3
def Sep(x y:AV):Prop:=∀id off n tp n',x=.sl id off n->y≠.sl id tp n'
structure PX (n0:Nat) (h:AH) (p:Nat) (xr:AV) (bk:Bk) (ids:List Nat) (qm bm gm:Nat) (l:OL) (pl:Int) (xp xo:AV):Prop where
 n:n0<=p/\cP (n0<=·) xp/\cP (n0<=·) xo
 p:h.obj p=some (Cl xr qm bm gm xp (aK bk.qs) (aK bk.bs) xo pl)
 m:PM h bk ids qm bm gm
 x:bN cq 1 3 h xp (l.map (·.2))
 o:∃yl:List (dS×AV),bN cf 7 49 h xo yl/\yl.map (·.1)=l.map (·.1)/\(∀y∈yl,bN cq 1 3 h y.2 y.1.aI/\Sep xp y.2/\cP (n0<=·) y.2)/\yl.Pairwise fun a b=>Sep a.2 b.2
 len:l.length<=4096
theorem PM.qd{n0:Nat}{h h':AH}{bk:Bk}{ids:List Nat}{qm bm gm:Nat}(a:PM h bk ids qm bm gm)(hf:Fr h h' (TW TQ n0 h)):PM h' bk ids qm bm gm:=
 ⟨TW.obj hf a.q rfl,TW.obj hf a.b rfl,TW.obj hf a.g rfl,a.len,fun k d id h1 h2=>(a.d k d id h1 h2).fr hf fun i o ho ht=>TW.no ho fun _=>by rcases ht with e |e<;>rw[e]<;>rfl,a.nd,a.qb⟩
theorem RT.qd{h h':AH}{xr:AV}{rs:List (Row×AV)}{n0:Nat}(a:RT h xr rs)(f:Fr h h' (TW TQ n0 h)):RT h' xr rs:=⟨a.r.oO f rfl,fun y hy=>⟨(a.a y hy).1.oO f rfl,(a.a y hy).2⟩,a.n⟩
theorem PX.aU{n0:Nat}{h h':AH}{p:Nat}{xr:AV}{bk:Bk}{ids:List Nat}{qm bm gm:Nat}{l:OL}{pl:Int}{xp xo:AV}(a:PX n0 h p xr bk ids qm bm gm l pl xp xo)(f:Fr h h' fun _=>False):PX n0 h' p xr bk ids qm bm gm l pl xp xo:=by
 obtain⟨yl,o1,o2,o3,o4⟩:=a.o
 exact⟨a.n,f.bM a.p,a.m.aU f,a.x.aO f fun _ _ h=>h,⟨yl,o1.aO f fun _ _ h=>h,o2,fun y hy=>⟨(o3 y hy).1.aO f fun _ _ h=>h,(o3 y hy).2⟩,o4⟩,a.len⟩
theorem PX.rD{n0:Nat}{h:AH}{p:Nat}{xr:AV}{bk:Bk}{ids:List Nat}{qm bm gm:Nat}{l:OL}{pl:Int}{xp xo:AV}(a:PX n0 h p xr bk ids qm bm gm l pl xp xo):CD h p pl:=⟨_,a.p,rfl⟩
theorem cP.lift{α:Type}{f:α->List AV}{sz:Nat}{ty:TypeId}{h:AH}{x:AV}{l:List α}(a:bN f sz ty h x l){W:Nat->Prop}(hw:∀id,h.obj id≠none->W id):cP W x:=by
 intro id off n e
 rcases a with⟨rfl,_⟩ |⟨i,rfl,ho⟩
 ·cases e
 ·cases e
  exact hw _ (by rw[ho];simp)
theorem fM{α:Type}{f:α->List AV}{sz:Nat}{ty:TypeId}{h:AH}{x:AV}{l:List α}(a:bN f sz ty h x l){i:Nat}{o:AO}(ho:h.obj i=some o)(ht:o.ty≠ty):¬ ∃off n,x=.sl i off n:=by
 rintro⟨off,n,e⟩
 rcases a with⟨rfl,_⟩ |⟨j,rfl,hj⟩
 ·cases e
 ·cases e
  rw[ho]at hj;cases hj
  exact ht rfl
theorem B9{α:Type}{f:α->List AV}{sz:Nat}{ty:TypeId}{h:AH}{x z:AV}{l:List α}(a:cP (h.next<=·) x)(b:cH f sz ty h z l):Sep x z:=by
 intro id off n tp n' e1 e2
 have h1:=a _ _ _ e1
 subst e2
 rcases b with⟨e,_⟩ |⟨_,_,e,_⟩ |⟨j,rest,ro,j3,e,_,hj⟩
 ·cases e
 ·cases e
 ·cases e
  have:=h.lt _ _ hj
  omega
theorem ZA{α:Type}{f:α->List AV}{sz:Nat}{ty:TypeId}{h h':AH}{x z:AV}{l:List α}(b:cH f sz ty h z l)(hf:Fr h h' fun i=>∃off n,x=.sl i off n)(hs:Sep x z):cH f sz ty h' z l:=by
 rcases b with e |e |⟨j,rest,ro,j3,rfl,ht,hj⟩
 ·exact .inl e
 ·exact .inr (.inl e)
 ·exact .inr (.inr ⟨j,rest,ro,j3,rfl,ht,hf.obj hj fun⟨off,n,e⟩=>hs _ _ _ _ _ e rfl⟩)
theorem Zz{α:Type}{f:α->List AV}{sz:Nat}{ty:TypeId}{h h':AH}{x z:AV}{l:List α}(b:bN f sz ty h z l)(hf:Fr h h' fun i=>∃off n,x=.sl i off n)(hs:Sep x z):bN f sz ty h' z l:=by
 rcases b with e |⟨j,rfl,hj⟩
 ·exact .inl e
 ·exact .inr ⟨j,rfl,hf.obj hj fun⟨off,n,e⟩=>hs _ _ _ _ _ e rfl⟩
theorem EA{α:Type}{f:α->List AV}{sz:Nat}{ty:TypeId}{h:AH}{x z:AV}{l:List α}(a:bN f sz ty h x l)(b:cP (h.next<=·) z):Sep x z:=by
 intro id off n tp n' e1 e2
 have h1:=b _ _ _ e2
 rcases a with⟨e,_⟩ |⟨j,e,hj⟩
 ·rw[e1]at e;cases e
 ·rw[e1]at e;cases e
  have:=h.lt _ _ hj
  omega
def PE(n0:Nat)(xr:AV)(bk:Bk)(ids:List Nat)(qm bm gm:Nat)(h:AH)(p:Nat)(e:Int):Prop:=∃l xp xo,PX n0 h p xr bk ids qm bm gm l e xp xo
theorem PX.ZB{n0:Nat}{h:AH}{p:Nat}{xr:AV}{bk:Bk}{ids:List Nat}{qm bm gm:Nat}{l:OL}{pl:Int}{xp xo:AV}(px:PX n0 h p xr bk ids qm bm gm l pl xp xo){e:Int}:PX n0 (h.put p 8 [I e]) p xr bk ids qm bm gm l e xp xo/\Fr h (h.put p 8 [I e]) (TW TQ n0 h):=by
 have f:Fr h (h.put p 8 [I e]) (·=p):=Fr.refl.put (.inl rfl)
 have o:=cX (off:=8) (cs:=[I e]) px.p
 generalize h.put p 8 [I e]=h1 at *
 have g:Fr h h1 (TW TQ n0 h):=TW.iO f px.n.1 px.p rfl rfl
 obtain⟨yl,o1,o2,o3,o4⟩:=px.o
 refine⟨⟨px.n,o,px.m.qd g,px.x.aO f fun id e he=>?_,⟨yl,o1.aO f fun id e he=>?_,o2,fun y hy=>⟨(o3 y hy).1.aO f fun id e he=>?_,(o3 y hy).2⟩,o4⟩,px.len⟩,g⟩
 ·subst he;exact fM px.x px.p (show(66:Nat)≠3 by decide) ⟨_,_,e⟩
 ·subst he;exact fM o1 px.p (show(66:Nat)≠49 by decide) ⟨_,_,e⟩
 ·subst he;exact fM (o3 y hy).1 px.p (show(66:Nat)≠3 by decide) ⟨_,_,e⟩
section
variable {h:AH} {M:Nat->Prop} {R:AE->AH->Prop} {n0 p:Nat} {xr xp xo xq:AV} {bk:Bk} {ids:List Nat} {qm bm gm:Nat} {l:OL} {pl place:Int} {k b:Int} {n:ByteArray} {qs:List Int} {w:gJ}
abbrev qv(w:gJ):List AV:=[B w.is,U w.cN,U w.value]
theorem EH{hb:AH}(CV:PX n0 hb p xr bk ids qm bm gm l pl xp xo)(fb:Fr hb h fun _=>False)(hq:bN cq 1 3 h xq qs)(Af:cP (hb.next<=·) xq)(hM:∀id,TW TQ n0 h id->M id)
  (he:∀h',jz l (jN k n qs b w) place=.error place->PE n0 xr bk ids qm bm gm h' p place->Fr h h' (TW TQ n0 h)->R (.ret (B false)) h')
  (hk:∀l' fD fi fj h',jz l (jN k n qs b w) place=.ok l'->PX n0 h' p xr bk ids qm bm gm l' fD fi fj->Fr h h' (TW TQ n0 h)->R (.ret (B true)) h') :
  aE Pg 43 [.ptr p 0,.agg [I k,Sb n,xq,I b,B false,U 0,U 0],.agg (qv w),I place] h M R:=by
 have px:=CV.aU fb
 have sep:Sep xp xq:=EA CV.x Af
 have Bn:cP (n0<=·) xq:=fun i of n e=>by
  have h1:=Af _ _ _ e
  have h2:=hb.lt _ _ CV.p
  have h3:=CV.n.1
  omega
 obtain⟨Jo,ob1,C4,vt,ob4⟩:=CV.o
 have TA:∀{h':AH},Fr h h' (fun _=>False)->bN cf 7 49 h' xo Jo/\Jo.map (·.1)=l.map (·.1)/\(∀y∈Jo,bN cq 1 3 h' y.2 y.1.aI/\Sep xp y.2/\cP (n0<=·) y.2)/\(∀y∈Jo,Sep y.2 xq):=fun f=>
  ⟨(ob1.aO fb fun _ _ h=>h).aO f fun _ _ h=>h,C4,fun y hy=>⟨((vt y hy).1.aO fb fun _ _ h=>h).aO f fun _ _ h=>h,(vt y hy).2⟩,fun y hy=>EA (vt y hy).1 Af⟩
 apply vY.aM
 unfold vY.n9
 refine dB (by show(true&&(true&&(cG xq&&true)))=true;rw[hq.cF.one.1];rfl) fun vo h1 f1 lG oo=>?_
 refine dB rfl fun vw h2 f2 Uq ow=>?_
 have cw:=f1.bX f2
 have Ke:=f2.bM oo
 have gT:=px.aU cw
 have du:vo≠vw:=fun e=>by
  have:=h1.lt _ _ oo
  omega
 have Yo:∀{h3:AH},Fr h h3 (TW TQ n0 h)->∀id,TW TQ n0 h3 id->(M id\/h.next<=id):=fun f id hid=>(TW.back f hid).elim (fun h=>.inl (hM id h)) .inr
 have mp:∀{h3:AH},(M p\/h3.next<=p):=.inl (hM p ⟨px.n.1,_,px.p,rfl,rfl⟩)
 unfold jz at he hk
 simp only[vY.n8,aD,ag,au,gT.p,ao,zG,Nat.reduceAdd,zA,zB,ab]
 obtain⟨o1,o2,o3,o4⟩:=TA cw
 generalize hgy:Jo=yl at *
 have nl:yl.length=l.length:=by have:=congrArg List.length o2;simpa using this
 simp only[o1.cF.len.1,o1.cF.len.2,zH,eG,nl]
 by_cases k1:l.length=4096
 ·rw[zX k1]at he
  have eK:((l.length:Int)==4096)=true:=by rw[k1];rfl
  simp only[eK,vY.n7,aj,zD,zF,zC,zI,vY.n6,aD,ag,aF,gT.p,dC,bG]
  refine⟨⟨mp (h3:=h),rfl,rfl,by simp⟩,?_⟩
  obtain⟨wA,f3⟩:=gT.ZB (e:=place)
  generalize h2.put p 8 [I place]=h3 at *
  simpa[vY.n5] using he h3 rfl ⟨l,xp,xo,wA⟩ (TW.trans (TW.aO cw) f3)
 ·rw[zW k1]at hk
  have eK:((l.length:Int)==4096)=false:=by
   have:¬(l.length:Int)=4096:=by omega
   simpa using this
  simp only[eK,vY.n7,aj,zE,zD,zC,zH,vY.n4]
  refine⟨fun _=>vw,fun _ _=>by rw[ow];simp,?_⟩
  simp only[ag,au,ow,ao,zG,zA,zB,ab,zH,aF,Ke,mw,bG]
  have wo:∀{i:Nat},i=vo->(M i\/h.next<=i):=fun e=>by subst e;exact .inr lG
  refine⟨⟨⟨wo rfl,fun _ _=>du⟩,rfl,rfl,by simp⟩,?_⟩
  have f3:Fr h (h2.put vo 4 [B w.is]) fun _=>False:=cw.put (.inr lG)
  have Kd:=cX (off:=4) (cs:=[B w.is]) Ke
  generalize h2.put vo 4 [B w.is]=h3 at *
  simp only[Kd,dC,bG]
  refine⟨⟨⟨wo rfl,fun _ _=>du⟩,rfl,rfl,by simp⟩,?_⟩
  have f4:Fr h (h3.put vo 5 [U w.cN]) fun _=>False:=f3.put (.inr lG)
  have Kc:=cX (off:=5) (cs:=[U w.cN]) Kd
  generalize h3.put vo 5 [U w.cN]=h4 at *
  simp only[Kc,dC,bG]
  refine⟨⟨wo rfl,rfl,rfl,by simp⟩,?_⟩
  have f5:Fr h (h4.put vo 6 [U w.value]) fun _=>False:=f4.put (.inr lG)
  have Pq:=cX (off:=6) (cs:=[U w.value]) Kc
  generalize h4.put vo 6 [U w.value]=h5 at *
  have tN:=px.aU f5
  have hq5:bN cq 1 3 h5 xq qs:=hq.aO f5 fun _ _ h=>h
  obtain⟨o1,o2,o3,o4⟩:=TA f5
  have abZ:yl.length=l.length:=by have:=congrArg List.length o2;simpa using this
  have abX:=px.len
  simp only[vY.n3,aD,ag,au,tN.p,ao,zG,Nat.reduceAdd,zA,zB,ab]
  refine di Pq rfl fun _=>?_
  refine pB (f:=cf) (t:=(jN k n qs b w,xq)) eW (by omega) rfl (by omega) rfl (jU hq.cF.one.1) o1 ?_ (by omega) fun y h6 hy Hg f6=>?_
  ·intro id off n e
   rcases o1 with⟨e1,_⟩ |⟨j,e1,ho⟩
   ·rw[e1]at e;cases e
   ·rw[e1]at e;cases e
    exact(Yo (TW.aO f5) _ ⟨px.n.2.2 _ _ _ e1,_,ho,rfl,rfl⟩)
  ·have oy:[y].all cG=true:=by show(cG y&&true)=true;rw[hy.cF.one.1];rfl
   have np:¬ ∃off n,xo=.sl p off n:=fM o1 tN.p (show(66:Nat)≠49 by decide)
   have p6:=f6.obj tN.p np
   have g6:Fr h h6 (TW TQ n0 h):=by
    refine TW.trans (TW.aO f5) (f6.mono fun i ⟨off,n,e⟩=>?_)
    rcases o1 with⟨e1,_⟩ |⟨j,e1,ho⟩
    ·rw[e1]at e;cases e
    ·rw[e1]at e;cases e
     exact⟨px.n.2.2 _ _ _ e1,_,ho,rfl,rfl⟩
   have x6:bN cq 1 3 h6 xp (l.map (·.2)):=tN.x.aO f6 fun id e=>by
    rcases tN.x with⟨e1,_⟩ |⟨j,e1,ho⟩
    ·rw[e1]at e;cases e
    ·rw[e1]at e;cases e
     exact fM o1 ho (show(3:Nat)≠49 by decide)
   have q6:∀{z:AV}{zl:List Int},bN cq 1 3 h5 z zl->bN cq 1 3 h6 z zl:=fun hz=>hz.aO f6 fun id e=>by
    rcases hz with⟨e1,_⟩ |⟨j,e1,hj⟩
    ·rw[e1]at e;cases e
    ·rw[e1]at e;cases e
     exact fM o1 hj (show(3:Nat)≠49 by decide)
   simp only[aD,ag,aF,p6,hy.cF.one.2,bG,zG,Nat.reduceAdd]
   refine⟨⟨mp (h3:=h),oy,rfl,by simp⟩,?_⟩
   have f7:Fr h6 (h6.put p 7 [y]) (·=p):=Fr.refl.put (.inl rfl)
   have p7:=cX (off:=7) (cs:=[y]) p6
   generalize h6.put p 7 [y]=h7 at *
   have g7:=TW.trans g6 (TW.iO (T:=TQ) f7 px.n.1 p6 rfl rfl)
   have x7:bN cq 1 3 h7 xp (l.map (·.2)):=x6.aO f7 fun id e he=>by
    subst he
    exact fM x6 p6 (show(66:Nat)≠3 by decide) ⟨_,_,e⟩
   have y7:bN cf 7 49 h7 y (yl++[(jN k n qs b w,xq)]):=hy.aO f7 fun id e he=>by
    subst he
    exact fM hy p6 (show(66:Nat)≠49 by decide) ⟨_,_,e⟩
   have q7:∀{z:AV}{zl:List Int},bN cq 1 3 h6 z zl->bN cq 1 3 h7 z zl:=fun hz=>hz.aO f7 fun id e he=>by
    subst he
    exact fM hz p6 (show(66:Nat)≠3 by decide) ⟨_,_,e⟩
   simp only[vY.n2,aD,ag,au,p7,putCells,List.set_cons_zero,List.set_cons_succ,ao,zG,Nat.reduceAdd,zA,zB,ab]
   refine pB (f:=cq) (t:=place) eX (by omega) rfl (by omega) rfl rfl x7 ?_ (by have:=px.len;simp only[zZ];omega) fun z h8 hz lF f8=>?_
   ·intro id off n e
    rcases x7 with⟨e1,_⟩ |⟨j,e1,ho⟩
    ·rw[e1]at e;cases e
    ·rw[e1]at e;cases e
     exact(Yo g7 _ ⟨px.n.2.1 _ _ _ e1,_,ho,rfl,rfl⟩)
   ·have oz:[z].all cG=true:=by show(cG z&&true)=true;rw[hz.cF.one.1];rfl
    have np8:¬ ∃off n,xp=.sl p off n:=fM x7 p7 (show(66:Nat)≠3 by decide)
    have p8:=f8.obj p7 np8
    have g8:Fr h h8 (TW TQ n0 h):=by
     refine TW.trans g7 (f8.mono fun i ⟨off,n,e⟩=>?_)
     rcases x7 with⟨e1,_⟩ |⟨j,e1,ho⟩
     ·rw[e1]at e;cases e
     ·rw[e1]at e;cases e
      exact⟨px.n.2.1 _ _ _ e1,_,ho,rfl,rfl⟩
    have y8:bN cf 7 49 h8 y (yl++[(jN k n qs b w,xq)]):=y7.aO f8 fun id e=>by
     rcases y7 with⟨e1,_⟩ |⟨j,e1,ho⟩
     ·rw[e1]at e;cases e
     ·rw[e1]at e;cases e
      exact fM x7 ho (show(49:Nat)≠3 by decide)
    simp only[aD,ag,aF,p8,hz.cF.one.2,bG,zG,Nat.reduceAdd]
    refine⟨⟨mp (h3:=h),oz,rfl,by simp⟩,?_⟩
    have f9:Fr h8 (h8.put p 4 [z]) (·=p):=Fr.refl.put (.inl rfl)
    have p9:=cX (off:=4) (cs:=[z]) p8
    generalize h8.put p 4 [z]=h9 at *
    have g9:=TW.trans g8 (TW.iO (T:=TQ) f9 px.n.1 p8 rfl rfl)
    have z9:bN cq 1 3 h9 z (l.map (·.2)++[place]):=hz.aO f9 fun id e he=>by
     subst he
     exact fM hz p8 (show(66:Nat)≠3 by decide) ⟨_,_,e⟩
    have y9:bN cf 7 49 h9 y (yl++[(jN k n qs b w,xq)]):=y8.aO f9 fun id e he=>by
     subst he
     exact fM y8 p8 (show(66:Nat)≠49 by decide) ⟨_,_,e⟩
    have q9:∀{z:AV}{zl:List Int},bN cq 1 3 h8 z zl->bN cq 1 3 h9 z zl:=fun hz=>hz.aO f9 fun id e he=>by
     subst he
     exact fM hz p8 (show(66:Nat)≠3 by decide) ⟨_,_,e⟩
    have zt:∀{v:AV}{zl:List Int},bN cq 1 3 h5 v zl->Sep xp v->bN cq 1 3 h9 v zl/\Sep z v:=fun{v zl} hv hs=>by
     have K9:bN cq 1 3 h7 v zl:=q7 (q6 hv)
     exact⟨q9 (Zz K9 f8 hs),B9 lF K9.cF⟩
    have lt:∀{a b:AH}{S:Nat->Prop},Fr a b S->∀{x:AV},cP (b.next<=·) x->cP (a.next<=·) x:=fun f x hx id off n e=>zR f.next (hx _ _ _ e)
    simp only[vY.n1]
    have fin:=hk (l++[(jN k n qs b w,place)]) pl z y h9 rfl ⟨⟨px.n.1,fun id off n e=>?_,fun id off n e=>?_⟩,?_,px.m.qd g9,by simpa using z9,⟨_,y9,by simp[o2],fun v hv=>?_,?_⟩,by simp only[List.length_append,List.length_singleton];have:=px.len;omega⟩ g9
    ·simpa using fin
    ·have h1:=lt g7 lF _ _ _ e
     have h2:=h.lt _ _ px.p
     have h3:=px.n.1
     omega
    ·have h1:=lt (TW.aO (T:=TQ) (n0:=n0) f5) Hg _ _ _ e
     have h2:=h.lt _ _ px.p
     have h3:=px.n.1
     omega
    ·simpa[putCells] using p9
    ·rcases List.mem_append.1 hv with hv |hv
     ·obtain⟨a1,a2⟩:=zt (o3 v hv).1 (o3 v hv).2.1
      exact⟨a1,a2,(o3 v hv).2.2⟩
     ·have:=List.mem_singleton.1 hv
      subst this
      obtain⟨a1,a2⟩:=zt hq5 sep
      exact⟨a1,a2,Bn⟩
    ·rw[List.pairwise_append]
     refine⟨ob4,List.pairwise_singleton _ _,fun a ha b qF=>?_⟩
     have:=List.mem_singleton.1 qF
     subst this
     exact o4 a ha
end
end
section
open Go.Ab
attribute [-simp] aX aF
theorem QJ{l:List fZ}{a:Arg}(h:gB l a=0):∃g,eF l a.name=some g/\0<=a.index/\a.index<g.size:=by
 unfold gB at h
 split at h
 ·cases h
 ·rename_i g hg
  split at h
  ·cases h
  ·exact⟨g,hg,by omega,by omega⟩
section
variable {h:AH} {M:Nat->Prop} {R:AE->AH->Prop} {p:Nat} {x1:AV} {bk:Bk} {ids:List Nat} {qm bm gm:Nat} {cs:List AV} {args:List Arg}
theorem Iv(hp:h.obj p=some (aN cs 9 66))(c1:cs[1]?=some (.mp qm))(pm:PM h bk ids qm bm gm)(ok:xK bk)(ha:cH Arg.enc 2 44 h x1 args)(hl:args.length<=100000000)(nu:∀a∈args,gB bk.qs a=0)
  (hR:∀y h',bN cq 1 3 h' y (args.map (fE bk.qs))->cP (h.next<=·) y->Fr h h' (fun _=>False)->R (.ret y) h'):aE Pg 42 [.ptr p 0,x1] h M R:=by
 apply ti.aM
 unfold ti.aQ ti.n9 ti.n8
 refine⟨ha.len.1,?_⟩
 rw[ha.len.2]
 unfold ti.n7
 refine bU (ι:=Nat×AV) (fun i v h'=>v=[.ptr p 0,i.2,x1,I args.length,I i.1]/\i.1<=args.length/\Fr h h' (fun _=>False)/\bN cq 1 3 h' i.2 ((args.take i.1).map (fE bk.qs))/\cP (h.next<=·) i.2) (fun i=>args.length-i.1) (0,aW) ⟨rfl,by omega,Fr.refl,by simpa using bN.nil,fun _ _ _ e=>by cases e⟩ ?_
 rintro K ⟨i,x5⟩ v h1 ⟨rfl,hi,f1,hx,hs⟩ step
 simp only at hi hx hs step
 simp only[ti.cB,zN,zO,ti.n6,aZ]
 by_cases aR:i<args.length
 ·have eh:(i:Int)<args.length:=by omega
  have g1:args[i]?=some args[i]:=zJ aR
  have hY:=List.getElem_mem aR
  have j8:args.take (i+1)=args.take i++[args[i]]:=by rw[List.take_add_one,g1];rfl
  generalize args[i]=a at *
  obtain⟨g,hg,i0,i1⟩:=QJ (nu a hY)
  have hgs:=ok.sq g (List.mem_of_find?_eq_some hg)
  have ht:=ok.tq
  simp only[zL eh,ti.n5,aj,zD,zF,zC,zI,ti.n4]
  refine fV (ha.aU f1) Arg.bL (Arg.iE a) g1 rfl rfl (fun id hid=>.inr (zR f1.next hid)) fun vn h2 f2 rM ov=>?_
  have cw:=f1.bX f2
  simp only[ti.n3,aD,ag,au,cw.bM hp,ov,ao,zG,c1,Arg.enc,zA,zB,ab]
  refine iQ (enc:=Sb) jP z93 (pm.aU cw).q fun _=>?_
  rw[lq,hg]
  have w1:IntKind.i64.wrap (g.from_+a.index)=fE bk.qs a:=by
   unfold fE
   rw[hg]
   exact aS (by omega) (by omega)
  have w2:IntKind.i64.wrap ((i:Int)+1)=((i+1:Nat):Int):=by rw[aS (by omega) (by omega)];simp
  simp only[yB,gR,zE,if_false,uS,ml,List.take,List.drop,zA,ag,au,ov,ao,zG,zB,ab,aT,w1]
  refine⟨_,rfl,?_⟩
  simp only[aT,w1]
  refine pB (f:=cq) (t:=fE bk.qs a) eX (by omega) rfl (by omega) rfl rfl (hx.aO f2 fun _ _ h=>h) (fun id off n e=>.inr (hs id off n e)) (by rw[zZ,yA];omega) fun y h3 hy Hg f3=>?_
  have dR:Fr h h3 fun _=>False:=cw.trans (f3.mono fun j ⟨off,n,e⟩=>.inr (hs j off n e))
  simp only[ti.n2,aT,w2]
  refine step (i+1,y) _ h3 (by simp only;omega) ⟨rfl,by simp only;omega,dR,?_,fun id off n e=>zR cw.next (Hg id off n e)⟩
  rw[j8,List.map_append]
  exact hy
 ·have dA:¬(i:Int)<args.length:=by omega
  have e:i=args.length:=by omega
  subst e
  rw[List.take_length]at hx
  simpa[dA,ti.n5,ti.n1] using hR x5 h1 hx hs f1
end
end
section
open Go.Ab
attribute [-simp] aX aF
abbrev Aa(env:List (ByteArray×Int)):AO:=lQ Sb 120 (env.map fun x=>(x.1,I x.2))
theorem NO{n:ByteArray}{env:List (ByteArray×Int)}:(match fl n (env.map fun x=>(x.1,I x.2)) with |some v=>v |none=>I 0)=I (mX env n):=by
 rw[Ai (f:=fun x:ByteArray×Int=>x.1) (g:=fun x=>I x.2)]
 unfold mX
 cases env.find? fun x=>decide (x.1=n)<;>rfl
structure SC (bk:Bk) (rs:List (Row×AV)):Prop where
 bf:lL bk
 dk:∀k,Jl bk (rs.map (·.1)) k
 nm:∀y∈rs,y.1.num<=9223372036854775807
def Jm(n0 p:Nat)(xr:AV)(bk:Bk)(ids:List Nat)(qm bm gm:Nat)(rs:List (Row×AV))(k n:Nat):Prop:=
 ∀(h:AH)(M:Nat->Prop)(R:AE->AH->Prop)(a:Nat)(env:List (ByteArray×Int))(mb:Nat)(w:gJ)(pl place:Int)(xp xo:AV)(l:OL)(ps:List ByteArray),PX n0 h p xr bk ids qm bm gm l pl xp xo->RT h xr rs->a+n<=rs.length ->
  h.obj mb=some (Aa env)->GB bk k ps (sg rs a n)->(∀id,TW TQ n0 h id->M id) ->
  (∀e h',bT bk (rs.map (·.1)) k env w place (sg rs a n) l=.error e->PE n0 xr bk ids qm bm gm h' p e->Fr h h' (TW TQ n0 h)->R (.ret (B false)) h') ->
  (∀l' fD fi fj h',bT bk (rs.map (·.1)) k env w place (sg rs a n) l=.ok l'->PX n0 h' p xr bk ids qm bm gm l' fD fi fj->Fr h h' (TW TQ n0 h)->R (.ret (B true)) h') ->
  aE Pg 64 [.ptr p 0,I a,I (a+n),.mp mb,.agg (qv w),I place] h M R
def Xj(bk:Bk)(k:Nat)(nm:ByteArray)(n:Nat):Prop:=eB bk.ds nm=none\/∃j d,j<k/\bk.ds[j]?=some d/\d.name=nm/\n=d.params.length
def B3(n0 p:Nat)(xr:AV)(bk:Bk)(ids:List Nat)(qm bm gm:Nat)(rs:List (Row×AV))(k:Nat):Prop:=
 ∀(hb h:AH)(M:Nat->Prop)(R:AE->AH->Prop)(nm:ByteArray)(qs:List Int)(xq:AV)(w:gJ)(pl place:Int)(xp xo:AV)(l:OL),PX n0 hb p xr bk ids qm bm gm l pl xp xo->Fr hb h (fun _=>False)->RT h xr rs ->
  bN cq 1 3 h xq qs->cP (hb.next<=·) xq->Xj bk k nm qs.length->(∀id,TW TQ n0 h id->M id) ->
  (∀e h',iU bk (rs.map (·.1)) k nm qs w place l=.error e->PE n0 xr bk ids qm bm gm h' p e->Fr h h' (TW TQ n0 h)->R (.ret (B false)) h') ->
  (∀l' fD fi fj h',iU bk (rs.map (·.1)) k nm qs w place l=.ok l'->PX n0 h' p xr bk ids qm bm gm l' fD fi fj->Fr h h' (TW TQ n0 h)->R (.ret (B true)) h') ->
  aE Pg 41 [.ptr p 0,Sb nm,xq,.agg (qv w),I place] h M R
theorem PX.fX{n0:Nat}{h:AH}{p:Nat}{xr:AV}{bk:Bk}{ids:List Nat}{qm bm gm:Nat}{l:OL}{pl:Int}{xp xo:AV}(a:PX n0 h p xr bk ids qm bm gm l pl xp xo):ba xo=false/\∀K:AV->Prop,bK xo K=K (I l.length):=by
 obtain⟨yl,o1,o2,_,_⟩:=a.o
 have nl:yl.length=l.length:=by have:=congrArg List.length o2;simpa using this
 rw[<-nl]
 exact o1.cF.len
section
variable {W:Nat->Prop} {QR QN:VK} {QE:Nat->VK} {QP:AV->AH->Prop} {h:AH} {n0 p vw vr mb:Nat} {xr xp xo x2:AV} {bk:Bk} {ids:List Nat} {qm bm gm:Nat} {l:OL} {pl place:Int} {rs:List (Row×AV)} {w:gJ} {y:Row×AV} {k j kk:Nat} {env:List (ByteArray×Int)} {ps:List ByteArray}
theorem Sd(hB:Jm n0 p xr bk ids qm bm gm rs k kk)(px:PX n0 h p xr bk ids qm bm gm l pl xp xo)(rt:RT h xr rs)(hj:j+1+kk<=rs.length)(om:h.obj mb=some (Aa env))(ow:h.obj vw=some (aN (qv w) 3 69))(bS:h.obj vr=some (aN (ay y) 6 42))(wX:y.1.rows=kk)
  (hg:GB bk k ps (sg rs (j+1) kk)) (hW:∀id,TW TQ n0 h id\/h.next<=id->W id)
  (he:∀e h',fP (bT bk (rs.map (·.1)) k env w place (sg rs (j+1) kk)) y.1.num.toNat l=.error e->PE n0 xr bk ids qm bm gm h' p e->Fr h h' (TW TQ n0 h)->QR [B false] h')
  (hk:∀l' fD fi fj h',fP (bT bk (rs.map (·.1)) k env w place (sg rs (j+1) kk)) y.1.num.toNat l=.ok l'->PX n0 h' p xr bk ids qm bm gm l' fD fi fj->Fr h h' (TW TQ n0 h)->fB.n2 W QR QN QE QP (.ptr p 0) x2 (.mp mb) (I place) (.ptr vw 0) (I j) h') (rN:y.1.num<=9223372036854775807) :
  fB.cj W QR QN QE QP (.ptr p 0) x2 (.mp mb) (I place) (.ptr vw 0) (I j) (.ptr vr 0) h:=by
 unfold fB.cj fB.cn
 have hlen:=rt.n
 refine bU (ι:=Nat×OL×Int×AV×AV) (fun i v h'=>v=[.ptr p 0,x2,.mp mb,I place,.ptr vw 0,I j,.ptr vr 0,I (y.1.num.toNat-i.1:Nat)]/\i.1<=y.1.num.toNat/\PX n0 h' p xr bk ids qm bm gm i.2.1 i.2.2.1 i.2.2.2.1 i.2.2.2.2/\fP (bT bk (rs.map (·.1)) k env w place (sg rs (j+1) kk)) i.1 i.2.1=fP (bT bk (rs.map (·.1)) k env w place (sg rs (j+1) kk)) y.1.num.toNat l/\Fr h h' (TW TQ n0 h)) (fun i=>i.1) (y.1.num.toNat,l,pl,xp,xo) ⟨by simp,zU _,px,rfl,TW.aO Fr.refl⟩ ?_
 rintro K ⟨c,l1,AN,jc,iG⟩ v h1 ⟨rfl,hc,nf,bq,f1⟩ step
 simp only at hc nf bq step
 have j7:h1.obj vr=some (aN (ay y) 6 42):=TW.obj f1 bS rfl
 have G9:h1.obj vw=some (aN (qv w) 3 69):=TW.obj f1 ow rfl
 have om1:h1.obj mb=some (Aa env):=TW.obj f1 om rfl
 simp only[fB.kV,zN,zO,fB.cb,ag,au,j7,ao,zG,ay,zA,zB,ab,aZ]
 cases c with
 |zero=>
  have e1:decide (((y.1.num.toNat-0:Nat):Int)<y.1.num)=false:=by simp;omega
  simp only[fP]at bq
  simp only[e1,fB.bW,aj,zE,zD,zC,zH,zV,if_false,fB.bD,zN,zO]
  exact hk l1 AN jc iG h1 bq.symm nf f1
 |succ c=>
  have e1:decide (((y.1.num.toNat-(c+1):Nat):Int)<y.1.num)=true:=by simp;omega
  have w1:∀x:Int,0<=x/\x<=1000000000->IntKind.i64.wrap x=x:=fun x hx=>aS (by omega) (by omega)
  simp only[fP]at bq
  simp only[e1,fB.bW,aj,zD,zF,zC,zI,fB.cp,aD,ag,au,nf.p,ao,zG,Nat.reduceAdd,zA,zB,ab,nf.fX.1,nf.fX.2,zH,fB.b_,j7,ay,wX,aT,w1 ((j:Int)+1) (by omega),w1 ((j:Int)+1+kk) (by omega)]
  refine di G9 rfl fun _=>?_
  refine⟨TW TQ n0 h1,fun id hs _=>hW id (TW.back f1 hs),hB h1 _ _ (j+1) env mb w AN place jc iG l1 ps nf (rt.qd f1) hj om1 hg (fun _ h=>h) ?_ ?_⟩
  ·intro e h2 hb hp f2
   rw[hb]at bq
   simp only[dq,zT,fB.bQ,aj,zD,zF,zC,zI,fB.bO]
   exact he e h2 bq.symm hp (TW.trans f1 f2)
  ·intro l2 lC nJ lU h2 hb gT f2
   rw[hb]at bq
   simp only at bq
   have cw:=TW.trans f1 f2
   simp only[dq,zS,fB.bQ,aj,zE,zD,zC,zH,fB.bH,aD,ag,au,gT.p,ao,zG,Nat.reduceAdd,zA,zB,ab,gT.fX.1,gT.fX.2,eG]
   by_cases k1:l2.length=l1.length
   ·rw[zX k1]at bq
    have eK:((l2.length:Int)==(l1.length:Int))=true:=by rw[k1];simp
    simp only[eK,fB.bz,aj,zD,zF,zC,zI,zV,fB.bD,zN,zO]
    exact hk l2 lC nJ lU h2 bq.symm gT cw
   ·rw[zW k1]at bq
    have eK:((l2.length:Int)==(l1.length:Int))=false:=by simp;omega
    have w3:IntKind.i64.wrap (((y.1.num.toNat-(c+1):Nat):Int)+1)=((y.1.num.toNat-c:Nat):Int):=by rw[aS (by omega) (by omega)];omega
    simp only[eK,fB.bz,aj,zE,zD,zC,zH,fB.bC,aT,w3]
    exact step (c,l2,lC,nJ,lU) _ h2 (by simp only;omega) ⟨rfl,by simp only;omega,gT,bq,cw⟩
theorem MX{n:ByteArray}:gR false (I 0) (fl n (env.map fun x=>(x.1,I x.2)))=I (mX env n):=by
 rw[<-NO]
 cases fl n (env.map fun x=>(x.1,I x.2))<;>rfl
theorem tL{α:Type}{f:α->List AV}{sz:Nat}{ty:TypeId}{h:AH}{x z:AV}{l:List α}(a:bN f sz ty h x l)(b:cP (h.next<=·) z):Sep x z:=by
 intro id off n tp n' e1 e2
 have h1:=b _ _ _ e2
 rcases a with⟨e,_⟩ |⟨j,e,hj⟩
 ·rw[e1]at e;cases e
 ·rw[e1]at e;cases e
  have:=h.lt _ _ hj
  omega
theorem Sc(hA:B3 n0 p xr bk ids qm bm gm rs k)(px:PX n0 h p xr bk ids qm bm gm l pl xp xo)(rt:RT h xr rs)(hy:rs[j]?=some y)(om:h.obj mb=some (Aa env))(ow:h.obj vw=some (aN (qv w) 3 69))(bS:h.obj vr=some (aN (ay y) 6 42))
  (hu:u_ bk k y.1) (hW:∀id,TW TQ n0 h id\/h.next<=id->W id)
  (he:∀e h',iU bk (rs.map (·.1)) k y.1.name (y.1.args.map fun a=>mX env a.name) w place l=.error e->PE n0 xr bk ids qm bm gm h' p e->Fr h h' (TW TQ n0 h)->QR [B false] h')
  (hk:∀l' fD fi fj h',iU bk (rs.map (·.1)) k y.1.name (y.1.args.map fun a=>mX env a.name) w place l=.ok l'->PX n0 h' p xr bk ids qm bm gm l' fD fi fj->Fr h h' (TW TQ n0 h)->fB.n2 W QR QN QE QP (.ptr p 0) x2 (.mp mb) (I place) (.ptr vw 0) (I j) h') :
  fB.bt W QR QN QE QP (.ptr p 0) x2 (.mp mb) (I place) (.ptr vw 0) (I j) (.ptr vr 0) h:=by
 obtain⟨ha,hl⟩:=rt.a y (zP hy)
 simp only[fB.bt,fB.bc,ag,au,bS,ao,zG,ay,zA,zB,ab,ha.len.1,ha.len.2,zH]
 unfold fB.a_
 refine bU (ι:=Nat×AV) (fun i v h'=>v=[.ptr p 0,x2,.mp mb,I place,.ptr vw 0,I j,.ptr vr 0,i.2,y.2,I y.1.args.length,I i.1]/\i.1<=y.1.args.length/\Fr h h' (fun _=>False)/\bN cq 1 3 h' i.2 ((y.1.args.take i.1).map fun a=>mX env a.name)/\cP (h.next<=·) i.2) (fun i=>y.1.args.length-i.1) (0,aW) ⟨rfl,by omega,Fr.refl,by simpa using bN.nil,fun _ _ _ e=>by cases e⟩ ?_
 rintro K ⟨i,x5⟩ v h1 ⟨rfl,hi,f1,hx,hs⟩ step
 simp only at hi hx hs step
 simp only[fB.fY,zN,zO,fB.aQ,aZ]
 have j7:=f1.bM bS
 by_cases aR:i<y.1.args.length
 ·have eh:(i:Int)<y.1.args.length:=by omega
  have g1:y.1.args[i]?=some y.1.args[i]:=zJ aR
  have j8:y.1.args.take (i+1)=y.1.args.take i++[y.1.args[i]]:=by rw[List.take_add_one,g1];rfl
  generalize y.1.args[i]=a at *
  simp only[zL eh,fB.n9,aj,zD,zF,zC,zI,fB.n8]
  refine fV (ha.aU f1) Arg.bL (Arg.iE a) g1 rfl rfl (fun id hid=>hW id (.inr (zR f1.next hid))) fun vn h2 f2 rM ov=>?_
  have cw:=f1.bX f2
  simp only[fB.n7,ag,au,ov,ao,zG,Arg.enc,zA,zB,ab]
  refine iQ (enc:=Sb) jP z3 (cw.bM om) fun _=>?_
  rw[MX]
  have w2:IntKind.i64.wrap ((i:Int)+1)=((i+1:Nat):Int):=by rw[aS (by omega) (by omega)];simp
  refine pB (f:=cq) (t:=mX env a.name) eX (by omega) rfl (by omega) rfl rfl (hx.aO f2 fun _ _ h=>h) (fun id off n e=>hW id (.inr (hs id off n e))) (by rw[zZ,yA];omega) fun z h3 hz lF f3=>?_
  have dR:Fr h h3 fun _=>False:=cw.trans (f3.mono fun j ⟨off,n,e⟩=>.inr (hs j off n e))
  simp only[fB.n6,aT,w2]
  refine step (i+1,z) _ h3 (by simp only;omega) ⟨rfl,by simp only;omega,dR,?_,fun id off n e=>zR cw.next (lF id off n e)⟩
  rw[j8,List.map_append]
  exact hz
 ·have dA:¬(i:Int)<y.1.args.length:=by omega
  have e:i=y.1.args.length:=by omega
  rw[e,List.take_length]at hx
  have nf:=px.aU f1
  simp only[zK dA,fB.n9,aj,zE,zD,zC,zH,zV,fB.n5,ag,au,j7,ao,zG,ay,zA,zB,ab,zN,zO]
  refine di (f1.bM ow) rfl fun _=>?_
  refine⟨TW TQ n0 h1,fun id hs _=>hW id (TW.back (TW.aO f1) hs),hA h h1 _ _ y.1.name _ x5 w pl place xp xo l px f1 (rt.aU f1) hx hs ?_ (fun _ h=>h) ?_ ?_⟩
  ·rcases hu with⟨u1,_⟩ |⟨jj,d,u1,u2,u3,u4,_⟩
   ·exact .inl u1
   ·exact .inr ⟨jj,d,u1,u2,u3,by simpa using u4⟩
  ·intro e h2 hb hp f2
   simp only[dq,zT,fB.n4,aj,zD,zF,zC,zI,fB.n3]
   exact he e h2 hb hp (TW.trans (TW.aO f1) f2)
  ·intro l2 lC nJ lU h2 hb gT f2
   simp only[dq,zS,fB.n4,aj,zE,zD,zC,zH]
   exact hk l2 lC nJ lU h2 hb gT (TW.trans (TW.aO f1) f2)
end
theorem GB.inv{bk:Bk}{k:Nat}{ps:List ByteArray}{r:Row}{l:List Row}(h:GB bk k ps (r::l)):(0<=r.rows/\r.rows<=l.length)/\GB bk k ps (l.drop r.rows.toNat)/\((r.kind=bj/\GB bk k ps (l.take r.rows.toNat))\/(r.kind≠bj/\u_ bk k r)):=by
 cases h with
 |S5 h0 h1 h2 h3 h4=>exact⟨by omega,by rw[h1];exact h4,.inr ⟨by rw[h0];decide,h2⟩⟩
 |li h0 h1 h2 h3=>exact⟨h1,h3,.inl ⟨h0,h2⟩⟩
section
variable {n0 p:Nat} {xr:AV} {bk:Bk} {ids:List Nat} {qm bm gm:Nat} {rs:List (Row×AV)} {k:Nat}
theorem Oi(sc:SC bk rs)(hA:B3 n0 p xr bk ids qm bm gm rs k)(n:Nat):Jm n0 p xr bk ids qm bm gm rs k n:=by
 induction n using Nat.strongRecOn with
 |ind n ih=>
 intro h M R a env mb w pl place xp xo l ps px rt hn om hg hM he hk
 apply fB.aM
 unfold fB.dx
 refine dB rfl fun vw h1 f1 Uq ow=>?_
 unfold fB.cT fB.da
 have hlen:=rt.n
 refine bU (ι:=Nat×OL×Int×AV×AV) (fun i v h'=>v=[.ptr p 0,I (a+n),.mp mb,I place,.ptr vw 0,I (a+(n-i.1:Nat):Int)]/\i.1<=n/\PX n0 h' p xr bk ids qm bm gm i.2.1 i.2.2.1 i.2.2.2.1 i.2.2.2.2/\GB bk k ps (sg rs (a+(n-i.1)) i.1)/\h'.obj vw=some (aN (qv w) 3 69) /\
  bT bk (rs.map (·.1)) k env w place (sg rs (a+(n-i.1)) i.1) i.2.1=bT bk (rs.map (·.1)) k env w place (sg rs a n) l/\Fr h h' (TW TQ n0 h)) (fun i=>i.1) (n,l,pl,xp,xo) ⟨by simp,zU _,px.aU f1,by simpa using hg,ow,by simp,TW.aO f1⟩ ?_
 rintro K ⟨m,l1,AN,jc,iG⟩ v h2 ⟨rfl,hm,gT,kC,EM,bq,f2⟩ step
 simp only at hm gT kC bq step
 have pX:=rt.qd f2
 have Kf:h2.obj mb=some (Aa env):=TW.obj f2 om rfl
 have Hu:∀{h3:AH},Fr h h3 (TW TQ n0 h)->∀id,TW TQ n0 h3 id\/h3.next<=id->(M id\/h.next<=id):=fun{h3} f id hid=>hid.elim (fun hid=>(TW.back f hid).elim (fun h=>.inl (hM id h)) .inr) (fun hid=>.inr (zR f.next hid))
 unfold fB.cB
 simp only[zN,zO,fB.cK,aZ]
 cases m with
 |zero=>
  have e1:decide ((a:Int)+(n-0:Nat)<a+n)=false:=by simp
  rw[uA,xB]at bq
  simp only[e1,fB.cz,aj,zE,zD,zC,zH,zV,fB.n1]
  simpa using hk l1 AN jc iG h2 bq.symm gT f2
 |succ m=>
  obtain⟨j,hj⟩:∃j,j=a+(n-(m+1)):=⟨_,rfl⟩
  have ej:(a:Int)+(n-(m+1):Nat)=(j:Int):=by omega
  have e1:decide ((j:Int)<a+n)=true:=by simp;omega
  rw[<-hj]at bq kC
  obtain⟨y,hy⟩:∃y,rs[j]?=some y:=⟨rs[j]'(by omega),zJ _⟩
  rw[wu hy]at bq kC
  rw[uX]at bq
  obtain⟨⟨b0,b1⟩,gd,gk⟩:=kC.inv
  rw[pV (by omega)]at b1
  obtain⟨kk,ie⟩:∃kk:Nat,y.1.rows=kk:=⟨y.1.rows.toNat,by omega⟩
  have lj:kk<=m:=by omega
  rw[ie,zY,jp lj,jq]at bq
  rw[ie,zY,jp lj]at gk
  rw[ie,zY,jq]at gd
  have w1:∀x:Int,0<=x/\x<=1000000000->IntKind.i64.wrap x=x:=fun x hx=>aS (by omega) (by omega)
  simp only[e1,ej,fB.cz,aj,zD,zF,zC,zI,fB.cy,aD,ag,au,gT.p,ao,zG,zA,ab]
  refine fV pX.r cO (pX.one hy) hy rfl rfl (fun id hid=>Hu f2 id (.inr hid)) fun vr h3 f3 _ jM=>?_
  have dR:=TW.trans f2 (TW.aO f3)
  have wA:=gT.aU f3
  have Bp:∀l' fD fi fj h',bT bk (rs.map (·.1)) k env w place (sg rs (j+1+kk) (m-kk)) l'=bT bk (rs.map (·.1)) k env w place (sg rs a n) l->PX n0 h' p xr bk ids qm bm gm l' fD fi fj->Fr h3 h' (TW TQ n0 h3) ->
    fB.n2 (fun id=>M id\/h.next<=id) (aJ Pg [.tmp 12] R) K (fun(i:Nat) (vs:List AV) (h:AH)=>if i=0 then fB.n1 (fun id=>M id\/h.next<=id) (aJ Pg [.tmp 12] R) (aJ Pg [.tmp 12] R) (fun _ _ _=>False) (fun v h=>R (.cg v) h) h else False) (fun v h=>R (.cg v) h) (.ptr p 0) (I (a+n)) (.mp mb) (I place) (.ptr vw 0) (I j) h':=fun l' fD fi fj h' sP JR f'=>by
   have iT:=TW.trans dR f'
   simp only[fB.n2,aD,ag,au,JR.p,ao,zG,zA,ab]
   refine dn (k:=4) (rt.qd iT).r cO hy (by omega) rfl fun _=>?_
   rw[ie]
   simp only[aT,w1 (1+(kk:Int)) (by omega),w1 ((j:Int)+(1+kk)) (by omega)]
   have e8:j+1+kk=a+(n-(m-kk)):=by omega
   have e9:(j:Int)+(1+kk)=a+(n-(m-kk):Nat):=by omega
   rw[e8]at sP gd
   exact step (m-kk,l',fD,fi,fj) _ h' (by simp only;omega) ⟨by rw[<-e9],by simp only;omega,JR,gd,TW.obj f' (f3.bM EM) rfl,sP,iT⟩
  have e4:(⟨#[114,101,112,101,97,116]⟩:ByteArray)=bj:=rfl
  simp only[fB.bV,ag,au,jM,ao,zG,ay,zA,zB,ab,bB,e4]
  have tP:=f3.bM EM
  rcases gk with⟨g1,g2⟩ |⟨g1,g2⟩
  ·rw[zX g1]at bq
   simp only[zL g1,fB.cl,aj,zD,zF,zC,zI]
   refine Sd (ih kk (by omega)) wA (rt.qd dR) (by omega) (TW.obj dR om rfl) tP jM ie g2 (Hu dR) ?_ ?_ (sc.nm y (zP hy))
   ·intro e h4 hb hp f4
    rw[hb]at bq
    simpa using he e h4 bq.symm hp (TW.trans dR f4)
   ·intro l' fD fi fj h4 hb sx f4
    rw[hb]at bq
    exact Bp l' fD fi fj h4 bq sx f4
  ·rw[zW g1]at bq
   simp only[zK g1,fB.cl,aj,zE,zD,zC,zH]
   refine Sc hA wA (rt.qd dR) hy (TW.obj dR om rfl) tP jM g2 (Hu dR) ?_ ?_
   ·intro e h4 hb hp f4
    rw[hb]at bq
    simpa using he e h4 bq.symm hp (TW.trans dR f4)
   ·intro l' fD fi fj h4 hb sx f4
    rw[hb]at bq
    exact Bp l' fD fi fj h4 bq sx f4
end
end
section
open Go.Ab
attribute [-simp] aX aF
section
variable {n0 p:Nat} {xr:AV} {bk:Bk} {ids:List Nat} {qm bm gm:Nat} {rs:List (Row×AV)} {k:Nat}
theorem zg{bk:Bk}{L:List Row}{nm:ByteArray}{qs:List Int}{w:gJ}{pl:Int}{l:OL}(h:eB bk.ds nm=none):iU bk L k nm qs w pl l=jz l (jN 1 nm qs 0 w) pl:=by
 unfold iU
 rw[I2 h]
theorem zf{bk:Bk}{L:List Row}{d:bY}{j:Nat}{qs:List Int}{w:gJ}{pl:Int}{l:OL}(a:kF bk)(hd:bk.ds[j]?=some d)(hj:j<k):iU bk L k d.name qs w pl l=if d.ops=0 then .ok l else bT bk L j (d.params.zip qs) w pl (rV L d) l:=by
 unfold iU
 rw[Ob a hd]
 simp only[hd,zX hj]
theorem LI(sc:SC bk rs)(hB:∀j n,j<k->Jm n0 p xr bk ids qm bm gm rs j n):B3 n0 p xr bk ids qm bm gm rs k:=by
 intro hb h M R nm qs xq w pl place xp xo l CV fb rt hq Af sO hM he hk
 have px:=CV.aU fb
 apply ma.aM
 unfold ma.bH
 refine dB rfl fun vw h1 f1 Uq ow=>?_
 have nf:=px.aU f1
 have yR:∀{h3:AH},Fr h h3 (TW TQ n0 h)->∀id,TW TQ n0 h3 id->(M id\/h.next<=id):=fun{h3} f id hid=>(TW.back f hid).elim (fun h=>.inl (hM id h)) .inr
 simp only[ma.bz,aD,ag,au,nf.p,ao,zG,zA,zB,ab]
 refine iQ (enc:=Sb) jP z87 nf.m.g fun _=>?_
 rcases sO with sO |⟨j,d,hj,hd,yN,hlen⟩
 ·rw[zg sO]at he hk
  rcases nH (n:=nm) nf.m.len with⟨e1,_⟩ |⟨k',d',id,_,e2,_,_⟩
  ·rw[e1]
   simp only[gR,zV,dN,zA,zB,ab,ma.bC,dq,zT,ma.bD,aj,zD,zF,zC,zI,ma.bt]
   refine⟨[I 1,Sb nm,xq,I 0,B false,U 0,U 0],?_,?_⟩
   ·simp[dM,putCells,dC,lP,hq.cF.one.2]
   ·refine di ow rfl fun _=>?_
    refine⟨TW TQ n0 h1,fun id hs _=>yR (TW.aO f1) id hs,EH CV (fb.bX f1) (hq.aO f1 fun _ _ h=>h) Af (fun _ h=>h) ?_ ?_⟩
    ·intro h2 lJ hp f2
     simpa using he _ h2 lJ hp (TW.trans (TW.aO f1) f2)
    ·intro l' fD fi fj h2 lJ gT f2
     simpa using hk l' fD fi fj h2 lJ gT (TW.trans (TW.aO f1) f2)
  ·rw[sO]at e2;cases e2
 ·subst yN
  rw[zf sc.bf.i hd hj]at he hk
  obtain⟨id,i1,i2,xd,od,hxd⟩:=Co nf.m sc.bf.i hd
  rw[i2]
  simp only[gR,zV,dN,zA,zB,ab,ma.bC,dq,zS,ma.bD,aj,zE,zD,zC,zH,ma.bc,aD,ag,au,od,ao,zG,eG]
  by_cases k1:d.ops=0
  ·rw[zX k1]at hk
   have eK:(d.ops==0)=true:=by simp[k1]
   simp only[eK,ma.a_,aj,zD,zF,zC,zI,ma.aQ]
   simpa using hk l pl xp xo h1 rfl nf (TW.aO f1)
  ·rw[zW k1]at he hk
   have eK:(d.ops==0)=false:=by simpa using k1
   simp only[eK,ma.a_,aj,zE,zD,zC,zH,ma.n9]
   refine Ac (enc:=Sb) fun mb h2 Kf Ya f2=>?_
   have cw:=f1.bX f2
   have Ps:=f2.bM od
   have Ng:bN hZ 1 9 h2 xd d.params:=hxd.aO f2 fun _ _ h=>h
   simp only[ma.n8,aD,ag,au,Ps,ao,zG,zA,zB,ab,Ng.cF.len.1,Ng.cF.len.2,zH]
   have jJ:=(sc.bf.i.ok.ds d (zP hd)).1
   have U1:=(sc.bf.a d (zP hd)).2
   have hq2:cH cq 1 3 h2 xq qs:=hq.cF.aU cw
   unfold ma.n7
   refine bU (ι:=Nat) (fun i v h'=>v=[.ptr p 0,xq,I place,.ptr vw 0,.ptr id 0,.mp mb,xd,I d.params.length,I i]/\i<=d.params.length/\Fr h2 h' (·=mb)/\h'.obj mb=some (Aa ((d.params.zip qs).take i))) (fun i=>d.params.length-i) 0 ⟨rfl,by omega,Fr.refl,by rw[List.take_zero];exact Kf⟩ ?_
   rintro K i v h3 ⟨rfl,hi,f3,EO⟩ step
   have dH:∀{x:Nat}{o:AO},h2.obj x=some o->o.ty≠120->h3.obj x=some o:=fun ho du=>f3.obj ho (fun e=>by subst e;rw[Kf]at ho;cases ho;exact du rfl)
   have ZQ:cH hZ 1 9 h3 xd d.params:=Ng.cF.fr f3 fun x o ho ht e=>by subst e;rw[Kf]at ho;cases ho;exact absurd (ht rfl) (show(120:Nat)≠9 by decide)
   have hq3:cH cq 1 3 h3 xq qs:=hq2.fr f3 fun x o ho ht e=>by subst e;rw[Kf]at ho;cases ho;exact absurd (ht rfl) (show(120:Nat)≠3 by decide)
   have fz:Fr h h3 fun _=>False:=cw.trans (f3.mono fun x e=>.inr (by subst e;exact zR f1.next Ya))
   simp only[ma.cB,zN,zO,ma.n6,aZ]
   by_cases aR:i<d.params.length
   ·have eh:(i:Int)<d.params.length:=by omega
    have g1:d.params[i]?=some d.params[i]:=zJ aR
    have g2:qs[i]?=some (qs[i]'(by omega)):=zJ _
    have tk:(d.params.zip qs).take (i+1)=(d.params.zip qs).take i++[(d.params[i],qs[i]'(by omega))]:=by
     rw[List.take_add_one,show(d.params.zip qs)[i]?=some (d.params[i],qs[i]'(by omega)) from List.getElem?_zip_eq_some.2 ⟨g1,g2⟩];rfl
    have jF:fl d.params[i] (((d.params.zip qs).take i).map fun x=>(x.1,I x.2))=none:=by
     have hm:eV d.params[i] (d.params.take i)=false:=by
      cases hx:eV d.params[i] (d.params.take i) with
      |false=>rfl
      |true=>rw[show tz d.params=true from ul g1 hx]at U1;cases U1
     have h5:=lN (n:=d.params[i]) (l:=((d.params.zip qs).take i).map fun x=>(x.1,I x.2))
     have h6:(((d.params.zip qs).take i).map fun x=>(x.1,I x.2)).map (·.1)=d.params.take i:=by
      rw[List.map_map]
      show((d.params.zip qs).take i).map (fun x=>x.1)=_
      rw[List.map_take,List.map_fst_zip (by omega)]
     rw[h6,hm]at h5
     cases hy:fl d.params[i] (((d.params.zip qs).take i).map fun x=>(x.1,I x.2)) with
     |none=>rfl
     |some _=>rw[hy]at h5;cases h5
    have w1:IntKind.i64.wrap ((i:Int)+1)=((i+1:Nat):Int):=by rw[aS (by omega) (by omega)];simp
    simp only[zL eh,ma.n5,aj,zD,zF,zC,zI,ma.n4]
    refine gZ ZQ (fun _=>rfl) g1 rfl fun _=>?_
    simp only[ma.n3]
    refine gZ hq3 (fun _=>rfl) g2 rfl fun _=>?_
    refine uC (enc:=Sb) (n:=d.params[i]) jP (.inr (zR f1.next Ya)) EO jF fun h4 om4 f4=>?_
    simp only[ma.n2,aT,w1]
    refine step (i+1) _ h4 (by omega) ⟨rfl,by omega,f3.trans (f4.mono fun _ h=>.inl h),?_⟩
    rw[tk,om4,Aa,List.map_append]
    rfl
   ·have dA:¬(i:Int)<d.params.length:=by omega
    have e:i=d.params.length:=by omega
    rw[e,List.take_of_length_le (by rw[List.length_zip];omega)]at EO
    obtain⟨a,n,ha,hn,U8,UU⟩:=sc.dk j d hd
    have wA:=px.aU fz
    have U5:rV (rs.map (·.1)) d=sg rs a n:=by
     unfold rV
     rw[ha,hn,oC]
     congr 1
     omega
    rw[U5]at he hk
    have od3:=dH Ps (show(91:Nat)≠120 by decide)
    have tP:=dH (f2.bM ow) (show(69:Nat)≠120 by decide)
    simp only[zK dA,ma.n5,aj,zE,zD,zC,zH,zV,ma.n1,zN,zO,aD,ag,au,od3,ao,zG,zA,zB,ab,ha,hn]
    refine di tP rfl fun _=>?_
    refine⟨TW TQ n0 h3,fun id hs _=>yR (TW.aO fz) id hs,hB j n hj h3 _ _ a _ mb w pl place xp xo l d.params wA (rt.aU fz) (by simpa using U8) EO (by rw[oC];exact UU) (fun _ h=>h) ?_ ?_⟩
    ·intro e h4 lJ hp f4
     simpa using he e h4 lJ hp (TW.trans (TW.aO fz) f4)
    ·intro l' fD fi fj h4 lJ sx f4
     simpa using hk l' fD fi fj h4 lJ sx (TW.trans (TW.aO fz) f4)
theorem I8(sc:SC bk rs):B3 n0 p xr bk ids qm bm gm rs k:=by
 induction k using Nat.strongRecOn with
 |ind k ih=>exact LI sc fun j n hj=>Oi sc (ih j hj) n
end
end
section
open Go.Ab
attribute [-simp] aX aF
theorem wF{t:TypeId}{c:Bool}{x y:Int}{K:AV->Prop}:ah Pg .and t c (U x) (U y) K=K (U (jW x y)):=by
 simp[ah,jW]
theorem EL{t:TypeId}{c:Bool}{x y:Int}{K:AV->Prop}:ah Pg .or t c (U x) (U y) K=K (U (vp x y)):=by
 simp[ah,vp]
theorem C3{t:TypeId}{c:Bool}{x y:Int}{K:AV->Prop}:ah Pg .sub t c (U x) (U y) K=K (U (IntKind.u64.wrap (x-y))):=by
 simp[ah]
theorem wE{t:TypeId}{c:Bool}{x y:Int}{K:AV->Prop}:ah Pg .neq t c (U x) (U y) K=K (B (x != y)):=by
 simp[ah]
theorem J5{n:Int}{K:AV->Prop}:qp (some .u64) (I n) K=K (U (IntKind.u64.wrap n)):=rfl
def Wu(n0 p:Nat)(xr:AV)(bk:Bk)(ids:List Nat)(qm bm gm:Nat)(rs:List (Row×AV))(n:Nat):Prop:=
 ∀(h:AH)(M:Nat->Prop)(R:AE->AH->Prop)(a:Nat)(w:gJ)(pl:Int)(xp xo:AV)(l:OL),PX n0 h p xr bk ids qm bm gm l pl xp xo->RT h xr rs->a+n<=rs.length->GO bk (sg rs a n)->(∀id,TW TQ n0 h id->M id) ->
  (∀e h',gU bk (rs.map (·.1)) w (sg rs a n) l=.error e->PE n0 xr bk ids qm bm gm h' p e->Fr h h' (TW TQ n0 h)->R (.ret (B false)) h') ->
  (∀l' fD fi fj h',gU bk (rs.map (·.1)) w (sg rs a n) l=.ok l'->PX n0 h' p xr bk ids qm bm gm l' fD fi fj->Fr h h' (TW TQ n0 h)->R (.ret (B true)) h') ->
  aE Pg 22 [.ptr p 0,I a,I (a+n),.agg (qv w)] h M R
section
variable {W:Nat->Prop} {QR QN:VK} {QE:Nat->VK} {QP:AV->AH->Prop} {h:AH} {n0 p vw vr:Nat} {xr xp xo x2:AV} {bk:Bk} {ids:List Nat} {qm bm gm:Nat} {l:OL} {pl:Int} {rs:List (Row×AV)} {w:gJ} {y:Row×AV} {j kk:Nat} {one:Except Int OL}
structure DK (W:Nat->Prop) (QR QN:VK) (QE:Nat->VK) (QP:AV->AH->Prop) (h:AH) (n0 p vw vr:Nat) (xr xp xo x2:AV) (bk:Bk) (ids:List Nat) (qm bm gm:Nat) (l:OL) (pl:Int) (rs:List (Row×AV)) (w:gJ) (y:Row×AV) (j:Nat) (one:Except Int OL):Prop where
 sc:SC bk rs
 px:PX n0 h p xr bk ids qm bm gm l pl xp xo
 rt:RT h xr rs
 hy:rs[j]?=some y
 ow:h.obj vw=some (aN (qv w) 3 69)
 bS:h.obj vr=some (aN (ay y) 6 42)
 hW:∀id,TW TQ n0 h id\/h.next<=id->W id
 he:∀e h',one=.error e->PE n0 xr bk ids qm bm gm h' p e->Fr h h' (TW TQ n0 h)->QR [B false] h'
 hk:∀l' fD fi fj h',one=.ok l'->PX n0 h' p xr bk ids qm bm gm l' fD fi fj->Fr h h' (TW TQ n0 h)->dJ.n2 W QR QN QE QP (.ptr p 0) x2 (.ptr vw 0) (I j) h'
theorem yk(k:DK W QR QN QE QP h n0 p vw vr xr xp xo x2 bk ids qm bm gm l pl rs w y j one){e:Int}{h':AH}(h1:one=.error e)(h2:PE n0 xr bk ids qm bm gm h' p e)(h3:Fr h h' (TW TQ n0 h)):dJ.n5 W QR QN QE QP (.ptr p 0) x2 (.ptr vw 0) (I j) (B false) h':=by
 simp only[dJ.n5,dq,zT,dJ.n4,aj,zD,zF,zC,zI,dJ.n3]
 exact k.he e h' h1 h2 h3
theorem vi(k:DK W QR QN QE QP h n0 p vw vr xr xp xo x2 bk ids qm bm gm l pl rs w y j one){l':OL}{fD:Int}{fi fj:AV}{h':AH}(h1:one=.ok l')(h2:PX n0 h' p xr bk ids qm bm gm l' fD fi fj)(h3:Fr h h' (TW TQ n0 h)):dJ.n5 W QR QN QE QP (.ptr p 0) x2 (.ptr vw 0) (I j) (B true) h':=by
 simp only[dJ.n5,dq,zS,dJ.n4,aj,zE,zD,zC,zH]
 exact k.hk l' fD fi fj h' h1 h2 h3
theorem SG(hB:Wu n0 p xr bk ids qm bm gm rs kk)(k:DK W QR QN QE QP h n0 p vw vr xr xp xo x2 bk ids qm bm gm l pl rs w y j (fP (gU bk (rs.map (·.1)) w (sg rs (j+1) kk)) y.1.num.toNat l))(hj:j+1+kk<=rs.length)(wX:y.1.rows=kk)(hg:GO bk (sg rs (j+1) kk)) :
  dJ.bz W QR QN QE QP (.ptr p 0) x2 (.ptr vw 0) (I j) (.ptr vr 0) (B true) h:=by
 unfold dJ.bz dJ.bC
 have hlen:=k.rt.n
 have rN:=k.sc.nm y (zP k.hy)
 refine bU (ι:=(Nat×Bool)×OL×Int×AV×AV) (fun i v h'=>v=[.ptr p 0,x2,.ptr vw 0,I j,.ptr vr 0,B i.1.2,I (y.1.num.toNat-i.1.1:Nat)]/\i.1.1<=y.1.num.toNat/\PX n0 h' p xr bk ids qm bm gm i.2.1 i.2.2.1 i.2.2.2.1 i.2.2.2.2 /\
  (i.1.2=true->fP (gU bk (rs.map (·.1)) w (sg rs (j+1) kk)) i.1.1 i.2.1=fP (gU bk (rs.map (·.1)) w (sg rs (j+1) kk)) y.1.num.toNat l) /\
  (i.1.2=false->fP (gU bk (rs.map (·.1)) w (sg rs (j+1) kk)) y.1.num.toNat l=.error i.2.2.1)/\Fr h h' (TW TQ n0 h)) (fun i=>i.1.1) ((y.1.num.toNat,true),l,pl,xp,xo) ⟨by simp,zU _,k.px,fun _=>rfl,(fun h=>by cases h),TW.aO Fr.refl⟩ ?_
 rintro K ⟨⟨c,IY⟩,l1,AN,jc,iG⟩ v h1 ⟨rfl,hc,nf,bq,nF,f1⟩ step
 simp only at hc nf bq nF step
 have j7:h1.obj vr=some (aN (ay y) 6 42):=TW.obj f1 k.bS rfl
 have G9:h1.obj vw=some (aN (qv w) 3 69):=TW.obj f1 k.ow rfl
 have fin:(IY=true->fP (gU bk (rs.map (·.1)) w (sg rs (j+1) kk)) y.1.num.toNat l=.ok l1)->dJ.n5 W QR QN QE QP (.ptr p 0) x2 (.ptr vw 0) (I j) (B IY) h1:=fun hf=>by
  cases IY with
  |true=>exact vi k (hf rfl) nf f1
  |false=>exact yk k (nF rfl) ⟨_,_,_,nf⟩ f1
 simp only[dJ.fY,zN,zO,dJ.bD,ag,au,j7,ao,zG,ay,zA,zB,ab,aZ]
 cases c with
 |zero=>
  have e1:decide (((y.1.num.toNat-0:Nat):Int)<y.1.num)=false:=by simp;omega
  simp only[fP]at bq
  simp only[e1,dJ.bt,ck,zS,zE,zD,zC,zH,dJ.bc,bu,if_false,dJ.a_,aj,zV,zN,zO]
  exact fin fun hf=>(bq hf).symm
 |succ c=>
  have e1:decide (((y.1.num.toNat-(c+1):Nat):Int)<y.1.num)=true:=by simp;omega
  simp only[e1,dJ.bt,ck,zS,zD,zF,zC,zI,dJ.bc,bu,zV,dJ.a_]
  cases IY with
  |false=>
   simp only[aj,zE,zD,zC,zH,zV,zN,zO]
   exact fin (fun h=>by cases h)
  |true=>
   have w1:∀x:Int,0<=x/\x<=1000000000->IntKind.i64.wrap x=x:=fun x hx=>aS (by omega) (by omega)
   have bq:=bq rfl
   simp only[fP]at bq
   simp only[aj,zD,zF,zC,zI,dJ.aQ,aD,ag,au,nf.p,ao,zG,Nat.reduceAdd,zA,zB,ab,nf.fX.1,nf.fX.2,zH,dJ.n9,j7,ay,wX,aT,w1 ((j:Int)+1) (by omega),w1 ((j:Int)+1+kk) (by omega)]
   refine di G9 rfl fun _=>?_
   have w3:IntKind.i64.wrap (((y.1.num.toNat-(c+1):Nat):Int)+1)=((y.1.num.toNat-c:Nat):Int):=by rw[aS (by omega) (by omega)];omega
   have YG:∀(xV:Bool) l2 lC nJ lU h2,PX n0 h2 p xr bk ids qm bm gm l2 lC nJ lU->Fr h h2 (TW TQ n0 h) ->
     (xV=true->(if l2.length=l1.length then Except.ok l2 else fP (gU bk (rs.map (·.1)) w (sg rs (j+1) kk)) c l2)=fP (gU bk (rs.map (·.1)) w (sg rs (j+1) kk)) y.1.num.toNat l) ->
     (xV=false->fP (gU bk (rs.map (·.1)) w (sg rs (j+1) kk)) y.1.num.toNat l=.error lC) ->
     dJ.n8 W QR K (fun(i:Nat) (vs:List AV) (h:AH)=>if i=3 then dJ.n5 W QR QN QE QP (vs.getD 0 aa) (vs.getD 1 aa) (vs.getD 2 aa) (vs.getD 3 aa) (vs.getD 4 aa) h else if i=2 then dJ.n5 W QR QN QE QP (vs.getD 0 aa) (vs.getD 1 aa) (vs.getD 2 aa) (vs.getD 3 aa) (vs.getD 4 aa) h else if i=1 then dJ.n2 W QR QN QE QP (vs.getD 0 aa) (vs.getD 1 aa) (vs.getD 2 aa) (vs.getD 3 aa) h else QE i vs h) QP (.ptr p 0) x2 (.ptr vw 0) (I j) (.ptr vr 0) (B xV) (I (y.1.num.toNat-(c+1):Nat)) (I l1.length) h2:=fun xV l2 lC nJ lU h2 gT f2 hq hf=>by
    simp only[dJ.n8,aD,ag,au,gT.p,ao,zG,Nat.reduceAdd,zA,zB,ab,gT.fX.1,gT.fX.2,zH,eG]
    by_cases k1:l2.length=l1.length
    ·have eK:((l2.length:Int)==(l1.length:Int))=true:=by rw[k1];simp
     simp only[eK,dJ.n7,aj,zD,zF,zC,zI,zV,zN,zO]
     cases xV with
     |true=>
      have:=hq rfl
      rw[zX k1]at this
      exact vi k this.symm gT f2
     |false=>exact yk k (hf rfl) ⟨_,_,_,gT⟩ f2
    ·have eK:((l2.length:Int)==(l1.length:Int))=false:=by simp;omega
     simp only[eK,dJ.n7,aj,zE,zD,zC,zH,dJ.n6,aT,w3]
     refine step ((c,xV),l2,lC,nJ,lU) _ h2 (by simp only;omega) ⟨rfl,by simp only;omega,gT,fun hh=>?_,hf,f2⟩
     have:=hq hh
     rwa [zW k1]at this
   refine⟨TW TQ n0 h1,fun id hs _=>k.hW id (TW.back f1 hs),hB h1 _ _ (j+1) w AN jc iG l1 nf (k.rt.qd f1) hj hg (fun _ h=>h) ?_ ?_⟩
   ·intro e h2 hb hp f2
    rw[hb]at bq
    obtain⟨l2,nJ,lU,gT⟩:=hp
    exact YG false l2 e nJ lU h2 gT (TW.trans f1 f2) (fun h=>by cases h) (fun _=>bq.symm)
   ·intro l2 lC nJ lU h2 hb gT f2
    rw[hb]at bq
    exact YG true l2 lC nJ lU h2 gT (TW.trans f1 f2) (fun _=>bq) (fun h=>by cases h)
end
end
section
open Go.Ab
attribute [-simp] aX aF
theorem VO{xq:AV}(hq:cM xq=some [xq]){k b:Int}:dM (fun i=>[(0,1),(1,1),(2,1),(3,1),(4,1),(5,1),(6,1)][i]?) ([Value.int .i64 0,.string ⟨#[]⟩,.slice none 0 0,.int .i64 0,.bool false,.int .u64 0,.int .u64 0].map .sc) [(0,I k),(2,xq),(3,I b)]=some [I k,Sb ⟨#[]⟩,xq,I b,B false,U 0,U 0]:=by
 simp[dM,putCells,dC,lP,hq]
theorem VN{xq:AV}(hq:cM xq=some [xq]){k:Int}:dM (fun i=>[(0,1),(1,1),(2,1),(3,1),(4,1),(5,1),(6,1)][i]?) ([Value.int .i64 0,.string ⟨#[]⟩,.slice none 0 0,.int .i64 0,.bool false,.int .u64 0,.int .u64 0].map .sc) [(0,I k),(2,xq)]=some [I k,Sb ⟨#[]⟩,xq,I 0,B false,U 0,U 0]:=by
 simp[dM,putCells,dC,lP,hq]
theorem B4{K:AV->Nat->Prop}{cs:List AV}{vn sz:Nat}{ty:TypeId}{h:AH}(ho:h.obj vn=some (aN cs sz ty))(hc:cs.length=sz)(hK:K (.agg cs) vn):al (some true) (some sz) (.ptr vn 0) h K:=by
 simp only[oF,ho,mG,zG,List.drop_zero]
 refine⟨by omega,?_⟩
 rw[List.take_of_length_le (by omega)];exact hK
theorem Q7{α:Type}{f:α->List AV}{sz:Nat}{ty:TypeId}{h:AH}{x:AV}{a:α}{r:List α}(hl:cH f sz ty h x (a::r)):∃id,x=.sl id 0 (a::r).length/\cH f sz ty h (.sl id 0 1) [a]:=by
 rcases hl with⟨_,e⟩ |⟨_,_,_,e⟩ |⟨id,rest,ro,j3,e1,e2,e3⟩
 ·cases e
 ·cases e
 ·exact⟨id,e1,.inr (.inr ⟨id,r.flatMap f++rest,ro,j3,rfl,e2,by rw[e3];simp⟩)⟩
theorem Hc{l:List fZ}{a:Arg}(hs:∀r∈l,1<=r.size/\0<=r.from_/\r.from_+r.size<=aK l)(ht:aK l<=64)(h:gB l a=0):∃g,eF l a.name=some g/\IntKind.i64.wrap (g.from_+a.index)=fE l a:=by
 obtain⟨g,hg,i0,i1⟩:=QJ h
 have:=hs g (List.mem_of_find?_eq_some hg)
 refine⟨g,hg,?_⟩
 unfold fE
 rw[hg]
 exact aS (by omega) (by omega)
section
variable {W:Nat->Prop} {QR QN:VK} {QE:Nat->VK} {QP:AV->AH->Prop} {h:AH} {n0 p vw vr:Nat} {xr xp xo x2:AV} {bk:Bk} {ids:List Nat} {qm bm gm:Nat} {l:OL} {pl:Int} {rs:List (Row×AV)} {w:gJ} {y:Row×AV} {j kk:Nat} {one:Except Int OL}
theorem DK.loc(k:DK W QR QN QE QP h n0 p vw vr xr xp xo x2 bk ids qm bm gm l pl rs w y j one){M:Nat->Prop}{R:AE->AH->Prop}{x1:AV}{args:List Arg}(ha:cH Arg.enc 2 44 h x1 args)(hl:args.length<=100000000)(nu:∀a∈args,gB bk.qs a=0)
  (hR:∀y h',bN cq 1 3 h' y (args.map (fE bk.qs))->cP (h.next<=·) y->Fr h h' (fun _=>False)->R (.ret y) h'):aE Pg 42 [.ptr p 0,x1] h M R:=
 Iv k.px.p rfl k.px.m k.sc.bf.i.ok ha hl nu fun y h' h1 h2 h3=>hR y h' h1 h2 h3
theorem SF(k:DK W QR QN QE QP h n0 p vw vr xr xp xo x2 bk ids qm bm gm l pl rs w y j (iU bk (rs.map (·.1)) bk.ds.length y.1.name (y.1.args.map (fE bk.qs)) w y.1.place l))(hu:u_ bk bk.ds.length y.1)(nu:∀a∈y.1.args,gB bk.qs a=0) :
  dJ.cb W QR QN QE QP (.ptr p 0) x2 (.ptr vw 0) (I j) (.ptr vr 0) h:=by
 obtain⟨ha,hl⟩:=k.rt.a y (zP k.hy)
 unfold dJ.cb
 refine⟨fun i=>if i=7 then vw else vr,fun i _=>by show h.obj (if i=7 then vw else vr)≠none;split<;>simp[k.ow,k.bS],?_⟩
 simp only[ag,au,k.bS,ao,zG,ay,zA,zB,ab]
 refine⟨by simp,?_⟩
 refine B4 k.ow rfl ⟨rfl,⟨by simp,?_⟩⟩
 refine⟨fun _=>False,fun _ h=>h.elim,k.loc ha hl nu fun z h1 hz uO f1=>?_⟩
 refine⟨TW TQ n0 h1,fun id hs _=>k.hW id (TW.back (TW.aO f1) hs),I8 (k:=bk.ds.length) k.sc h h1 _ _ y.1.name _ z w pl y.1.place xp xo l k.px f1 (k.rt.aU f1) hz uO ?_ (fun _ h=>h) ?_ ?_⟩
 ·rcases hu with⟨u1,_⟩ |⟨jj,d,u1,u2,u3,u4,_⟩
  ·exact .inl u1
  ·exact .inr ⟨jj,d,u1,u2,u3,by simpa using u4⟩
 ·intro e h2 hb hp f2
  exact yk k hb hp (TW.trans (TW.aO f1) f2)
 ·intro l2 lC nJ lU h2 hb gT f2
  exact vi k hb gT (TW.trans (TW.aO f1) f2)
theorem L5(k:DK W QR QN QE QP h n0 p vw vr xr xp xo x2 bk ids qm bm gm l pl rs w y j (jz l (jN 3 ByteArray.empty (y.1.args.map (fE bk.qs)) 0 w) y.1.place))(nu:∀a∈y.1.args,gB bk.qs a=0) :
  dJ.cl W QR QN QE QP (.ptr p 0) x2 (.ptr vw 0) (I j) (.ptr vr 0) h:=by
 obtain⟨ha,hl⟩:=k.rt.a y (zP k.hy)
 unfold dJ.cl
 refine⟨fun i=>if i=6 then vw else vr,fun i _=>by show h.obj (if i=6 then vw else vr)≠none;split<;>simp[k.ow,k.bS],?_⟩
 simp only[ag,au,k.bS,ao,zG,ay,zA,zB,ab]
 refine B4 k.ow rfl ⟨rfl,⟨by simp,?_⟩⟩
 refine⟨fun _=>False,fun _ h=>h.elim,k.loc ha hl nu fun z h1 hz uO f1=>?_⟩
 refine⟨_,VN hz.cF.one.2,?_⟩
 refine⟨TW TQ n0 h1,fun id hs _=>k.hW id (TW.back (TW.aO f1) hs),EH k.px f1 hz uO (fun _ h=>h) ?_ ?_⟩
 ·intro h2 hb hp f2
  exact yk k hb hp (TW.trans (TW.aO f1) f2)
 ·intro l2 lC nJ lU h2 hb gT f2
  exact vi k hb gT (TW.trans (TW.aO f1) f2)
theorem O4{a b:Arg}(oL:y.1.args=[a,b])(k:DK W QR QN QE QP h n0 p vw vr xr xp xo x2 bk ids qm bm gm l pl rs w y j (jz l (jN 2 ByteArray.empty [fE bk.qs a] (fE bk.bs b) w) y.1.place))(h0:gB bk.qs a=0)(h1:gB bk.bs b=0) :
  dJ.cj W QR QN QE QP (.ptr p 0) x2 (.ptr vw 0) (I j) (.ptr vr 0) h:=by
 obtain⟨ha,hl⟩:=k.rt.a y (zP k.hy)
 rw[oL]at ha
 obtain⟨g,hg,w1⟩:=Hc k.sc.bf.i.ok.sb k.sc.bf.i.ok.tb.2 h1
 simp only[dJ.cj,aD,ag,au,k.px.p,k.bS,ao,zG,ay,zA,zB,ab]
 refine dn (i:=1) (k:=0) ha Arg.bL rfl (by omega) rfl fun _=>?_
 refine iQ (enc:=Sb) jP z93 k.px.m.b fun _=>?_
 rw[lq,hg]
 simp only[yB,gR,zE,if_false,uS]
 refine⟨_,rfl,?_⟩
 refine dn (i:=1) (k:=1) ha Arg.bL rfl (by omega) rfl fun _=>?_
 simp only[aT,w1]
 obtain⟨id,e1,aaR⟩:=Q7 ha
 unfold dJ.cn
 refine⟨fun i=>if i=8 then vw else vr,fun i _=>by show h.obj (if i=8 then vw else vr)≠none;split<;>simp[k.ow,k.bS],?_⟩
 simp only[ag,au,k.bS,ao,zG,ay,zA,zB,ab]
 rw[e1]
 refine Ly (n:=1) (by simp) ?_
 refine B4 k.ow rfl ⟨rfl,⟨by simp,?_⟩⟩
 refine⟨fun _=>False,fun _ h=>h.elim,k.loc aaR (by simp) (fun c hc=>by have:=List.mem_singleton.1 hc;subst this;exact h0) fun z h1 hz uO f1=>?_⟩
 refine⟨_,VO hz.cF.one.2,?_⟩
 refine⟨TW TQ n0 h1,fun id hs _=>k.hW id (TW.back (TW.aO f1) hs),EH k.px f1 hz uO (fun _ h=>h) ?_ ?_⟩
 ·intro h2 hb hp f2
  exact yk k hb hp (TW.trans (TW.aO f1) f2)
 ·intro l2 lC nJ lU h2 hb gT f2
  exact vi k hb gT (TW.trans (TW.aO f1) f2)
theorem Ws{g:fZ}(hB:Wu n0 p xr bk ids qm bm gm rs kk)(jT:eF bk.bs y.1.name=some g)(k:DK W QR QN QE QP h n0 p vw vr xr xp xo x2 bk ids qm bm gm l pl rs w y j (match mZ w g y.1.num with |none=>.ok l |some w'=>gU bk (rs.map (·.1)) w' (sg rs (j+1) kk) l))
  (hj:j+1+kk<=rs.length) (wX:y.1.rows=kk) (hg:GO bk (sg rs (j+1) kk)):dJ.bW W QR QN QE QP (.ptr p 0) x2 (.ptr vw 0) (I j) (.ptr vr 0) h:=by
 have hlen:=k.rt.n
 simp only[dJ.bW,aD,ag,au,k.px.p,k.bS,ao,zG,ay,zA,zB,ab]
 refine iQ (enc:=Sb) jP z93 k.px.m.b fun _=>?_
 rw[lq,jT]
 simp only[yB,gR,zE,if_false,uS]
 have hs:=k.sc.bf.i.ok.sb g (List.mem_of_find?_eq_some jT)
 refine g_ (cs:=[I g.from_,I g.size]) rfl rfl rfl rfl (fun id hid=>k.hW id (.inr hid)) fun v1 h1 f1 _ ov=>?_
 have j7:=f1.bM k.bS
 have G9:=f1.bM k.ow
 have QI:IntKind.u64.bits=64:=rfl
 have s0:0<=g.size:=by omega
 have hm:IntKind.u64.wrap (IntKind.u64.wrap (IntKind.u64.wrap (1*2^(min g.size.toNat 64))-1)*2^(min g.from_.toNat 64))=gA g:=rfl
 have hv:IntKind.u64.wrap (IntKind.u64.wrap y.1.num*2^(min g.from_.toNat 64))=valOf g y.1.num:=rfl
 simp only[dJ.cp,ag,au,ov,ao,zG,zA,zB,ab,pk,s0,zH,C3,hs.2.1,QI,hm,dJ.b_,j7,ay,J5,hv,dJ.bQ,G9,wF,wE]
 unfold mZ at k
 by_cases k1:jW w.value (gA g)=jW (valOf g y.1.num) w.cN
 ·rw[zW (by simpa using k1)]at k
  have eK:(jW w.value (gA g) != jW (valOf g y.1.num) w.cN)=false:=by simp[k1]
  have w1:∀x:Int,0<=x/\x<=1000000000->IntKind.i64.wrap x=x:=fun x hx=>aS (by omega) (by omega)
  simp only[eK,dJ.bO,aj,zE,zD,zC,zH,dJ.bH,aT,w1 ((j:Int)+1) (by omega),ag,au,j7,G9,ao,zG,ay,zA,zB,ab,wX,w1 ((j:Int)+1+kk) (by omega),EL]
  refine⟨qv ⟨true,vp w.cN (gA g),vp w.value (valOf g y.1.num)⟩,by simp[dM,putCells,dC,mw],?_⟩
  refine⟨TW TQ n0 h1,fun id hs _=>k.hW id (TW.back (TW.aO f1) hs),hB h1 _ _ (j+1) _ pl xp xo l (k.px.aU f1) (k.rt.aU f1) hj hg (fun _ h=>h) ?_ ?_⟩
  ·intro e h2 hb hp f2
   exact yk k hb hp (TW.trans (TW.aO f1) f2)
  ·intro l2 lC nJ lU h2 hb gT f2
   exact vi k hb gT (TW.trans (TW.aO f1) f2)
 ·rw[zX k1]at k
  have eK:(jW w.value (gA g) != jW (valOf g y.1.num) w.cN)=true:=by simp[k1]
  simp only[eK,dJ.bO,aj,zD,zF,zC,zI]
  exact k.hk l pl xp xo h1 rfl (k.px.aU f1) (TW.aO f1)
end
end
section
open Go.Ab
attribute [-simp] aX aF
theorem GO.inv{bk:Bk}{r:Row}{l:List Row}(h:GO bk (r::l)):(0<=r.rows/\r.rows<=l.length)/\Ox bk r/\(r.kind=bj\/r.kind=fK->GO bk (l.take r.rows.toNat))/\GO bk (l.drop r.rows.toNat):=by
 cases h with |cons h0 h1 h2 h3=>exact⟨h0,h1,h2,h3⟩
section
variable {n0 p:Nat} {xr:AV} {bk:Bk} {ids:List Nat} {qm bm gm:Nat} {rs:List (Row×AV)}
theorem W8(sc:SC bk rs)(n:Nat):Wu n0 p xr bk ids qm bm gm rs n:=by
 induction n using Nat.strongRecOn with
 |ind n ih=>
 intro h M R a w pl xp xo l px rt hn hg hM he hk
 apply dJ.aM
 unfold dJ.dO
 refine dB rfl fun vw h1 f1 Uq ow=>?_
 unfold dJ.eu dJ.eC
 have hlen:=rt.n
 refine bU (ι:=Nat×OL×Int×AV×AV) (fun i v h'=>v=[.ptr p 0,I (a+n),.ptr vw 0,I (a+(n-i.1:Nat):Int)]/\i.1<=n/\PX n0 h' p xr bk ids qm bm gm i.2.1 i.2.2.1 i.2.2.2.1 i.2.2.2.2/\GO bk (sg rs (a+(n-i.1)) i.1)/\h'.obj vw=some (aN (qv w) 3 69) /\
  gU bk (rs.map (·.1)) w (sg rs (a+(n-i.1)) i.1) i.2.1=gU bk (rs.map (·.1)) w (sg rs a n) l/\Fr h h' (TW TQ n0 h)) (fun i=>i.1) (n,l,pl,xp,xo) ⟨by simp,zU _,px.aU f1,by simpa using hg,ow,by simp,TW.aO f1⟩ ?_
 rintro K ⟨m,l1,AN,jc,iG⟩ v h2 ⟨rfl,hm,gT,kC,EM,bq,f2⟩ step
 simp only at hm gT kC bq step
 have pX:=rt.qd f2
 have Hu:∀{h3:AH},Fr h h3 (TW TQ n0 h)->∀id,TW TQ n0 h3 id\/h3.next<=id->(M id\/h.next<=id):=fun{h3} f id hid=>hid.elim (fun hid=>(TW.back f hid).elim (fun h=>.inl (hM id h)) .inr) (fun hid=>.inr (zR f.next hid))
 unfold dJ.cB
 simp only[zN,zO,dJ.dL,aZ]
 cases m with
 |zero=>
  have e1:decide ((a:Int)+(n-0:Nat)<a+n)=false:=by simp
  rw[uA,um]at bq
  simp only[e1,dJ.d_,aj,zE,zD,zC,zH,zV,dJ.n1]
  simpa using hk l1 AN jc iG h2 bq.symm gT f2
 |succ m=>
  obtain⟨j,hj⟩:∃j,j=a+(n-(m+1)):=⟨_,rfl⟩
  have ej:(a:Int)+(n-(m+1):Nat)=(j:Int):=by omega
  have e1:decide ((j:Int)<a+n)=true:=by simp;omega
  rw[<-hj]at bq kC
  obtain⟨y,hy⟩:∃y,rs[j]?=some y:=⟨rs[j]'(by omega),zJ _⟩
  rw[wu hy]at bq kC
  rw[uU]at bq
  obtain⟨⟨b0,b1⟩,go,gt,gd⟩:=kC.inv
  rw[pV (by omega)]at b1
  obtain⟨kk,ie⟩:∃kk:Nat,y.1.rows=kk:=⟨y.1.rows.toNat,by omega⟩
  have lj:kk<=m:=by omega
  rw[ie,zY,jp lj,jq]at bq
  rw[ie,zY,jp lj]at gt
  rw[ie,zY,jq]at gd
  have w1:∀x:Int,0<=x/\x<=1000000000->IntKind.i64.wrap x=x:=fun x hx=>aS (by omega) (by omega)
  simp only[e1,ej,dJ.d_,aj,zD,zF,zC,zI,dJ.dF,aD,ag,au,gT.p,ao,zG,zA,ab]
  refine fV pX.r cO (pX.one hy) hy rfl rfl (fun id hid=>Hu f2 id (.inr hid)) fun vr h3 f3 _ jM=>?_
  have dR:=TW.trans f2 (TW.aO f3)
  have wA:=gT.aU f3
  have tP:=f3.bM EM
  have dk:DK (fun id=>M id\/h.next<=id) (aJ Pg [.tmp 8] R) K (fun(i:Nat) (vs:List AV) (h:AH)=>if i=0 then dJ.n1 (fun id=>M id\/h.next<=id) (aJ Pg [.tmp 8] R) (aJ Pg [.tmp 8] R) (fun _ _ _=>False) (fun v h=>R (.cg v) h) h else False) (fun v h=>R (.cg v) h) h3 n0 p vw vr xr jc iG (I (a+n)) bk ids qm bm gm l1 AN rs w y j (uH bk (rs.map (·.1)) w y.1 (sg rs (j+1) kk) l1):=by
   refine⟨sc,wA,rt.qd dR,hy,tP,jM,Hu dR,?_,?_⟩
   ·intro e h' ho hp f'
    rw[ho]at bq
    simpa using he e h' bq.symm hp (TW.trans dR f')
   ·intro l' fD fi fj h' ho JR f'
    rw[ho]at bq
    have iT:=TW.trans dR f'
    simp only[dJ.n2,aD,ag,au,JR.p,ao,zG,zA,ab]
    refine dn (k:=4) (rt.qd iT).r cO hy (by omega) rfl fun _=>?_
    rw[ie]
    simp only[aT,w1 (1+(kk:Int)) (by omega),w1 ((j:Int)+(1+kk)) (by omega)]
    have e8:j+1+kk=a+(n-(m-kk)):=by omega
    have e9:(j:Int)+(1+kk)=a+(n-(m-kk):Nat):=by omega
    simp only[kJ]at bq
    rw[e8]at bq gd
    exact step (m-kk,l',fD,fi,fj) _ h' (by simp only;omega) ⟨by rw[<-e9],by simp only;omega,JR,gd,TW.obj f' tP rfl,bq,iT⟩
  clear bq step
  have e4:(⟨#[114,101,112,101,97,116]⟩:ByteArray)=bj:=rfl
  have e5:(⟨#[105,102]⟩:ByteArray)=fK:=rfl
  have e6:(⟨#[117,115,101]⟩:ByteArray)=cQ:=rfl
  have e7:(⟨#[109,101,97,115,117,114,101]⟩:ByteArray)=cD:=rfl
  have e8:(⟨#[114,101,115,101,116]⟩:ByteArray)=dz:=rfl
  unfold uH at dk
  simp only[dJ.eJ,dJ.ed,ag,au,jM,ao,zG,ay,zA,zB,ab,dJ.dV,bB,e4]
  by_cases k1:y.1.kind=bj
  ·rw[zX k1]at dk
   simp only[zL k1,dJ.dT,aj,zD,zF,zC,zI]
   exact SG (ih kk (by omega)) dk (by omega) ie (gt (.inl k1))
  rw[zW k1]at dk
  simp only[zK k1,dJ.dT,aj,zE,zD,zC,zH,dJ.dW,bB,e5]
  by_cases k2:y.1.kind=fK
  ·rw[zX k2]at dk
   obtain⟨g,jT,_⟩:=go.i k2
   rw[jT]at dk
   simp only[zL k2,dJ.dx,aj,zD,zF,zC,zI]
   exact Ws (ih kk (by omega)) jT dk (by omega) ie (gt (.inr k2))
  rw[zW k2]at dk
  simp only[zK k2,dJ.dx,aj,zE,zD,zC,zH,dJ.cT,bB,e6]
  by_cases k3:y.1.kind=cQ
  ·rw[zX k3]at dk
   simp only[zL k3,dJ.da,aj,zD,zF,zC,zI]
   exact SF dk (go.u k3).1 (go.u k3).2
  rw[zW k3]at dk
  simp only[zK k3,dJ.da,aj,zE,zD,zC,zH,dJ.cK,bB,e7]
  by_cases k4:y.1.kind=cD
  ·rw[zX k4]at dk
   obtain⟨x,z,KB,h0,h1⟩:=go.m k4
   rw[KB]at dk
   simp only[zL k4,dJ.cz,aj,zD,zF,zC,zI]
   exact O4 KB dk h0 h1
  rw[zW k4]at dk
  simp only[zK k4,dJ.cz,aj,zE,zD,zC,zH,dJ.cy,bB,e8]
  by_cases k5:y.1.kind=dz
  ·rw[zX k5]at dk
   obtain⟨x,hx,h0⟩:=go.s k5
   simp only[zL k5,dJ.bV,aj,zD,zF,zC,zI]
   exact L5 dk (fun c hc=>by rw[hx]at hc;have:=List.mem_singleton.1 hc;subst this;exact h0)
  rw[zW k5]at dk
  simp only[zK k5,dJ.bV,aj,zE,zD,zC,zH]
  exact vi dk rfl wA (TW.aO Fr.refl)
end
end
section
open Go.Ab
attribute [-simp] aX aF
def OG(o:dS):Prop:=o.aI.length<=100000000/\HX o
def WG(w:gJ):Prop:=(0<=w.cN/\w.cN<18446744073709551616)/\(0<=w.value/\w.value<18446744073709551616)
theorem D5{k:Int}{n:ByteArray}{qs:List Int}{b:Int}{w:gJ}(hq:qs.length<=100000000)(hw:WG w):OG (jN k n qs b w):=⟨hq,hw.1.1,hw.1.2,hw.2.1,hw.2.2⟩
def LG(l:OL):Prop:=∀x∈l,OG x.1
theorem xP{l l':OL}{o:dS}{pl:Int}(h:jz l o pl=.ok l')(hl:LG l)(ho:OG o):LG l':=by
 unfold jz at h
 split at h
 ·cases h
 ·cases h
  intro x hx
  rcases List.mem_append.1 hx with hx |hx
  ·exact hl x hx
  ·have:=List.mem_singleton.1 hx
   subst this;exact ho
theorem zs{I:OL->Prop}{f:OL->Except Int OL}(hf:∀l l',f l=.ok l'->I l->I l'):∀(n:Nat)(l l':OL),fP f n l=.ok l'->I l->I l'
 |0,l,l',h,hl=>by cases h;exact hl
 |n+1,l,l',h,hl=>by
  unfold fP at h
  split at h
  ·cases h
  ·rename_i l1 h1
   split at h
   ·cases h;exact hf _ _ h1 hl
   ·exact zs hf n l1 l' h (hf _ _ h1 hl)
theorem Gf{f:OL->Except Int OL}{x:Except Int OL}{l':OL}(h:kJ f x=.ok l'):∃l1,x=.ok l1/\f l1=.ok l':=by
 cases x with
 |error e=>cases h
 |ok l1=>exact⟨l1,rfl,h⟩
theorem Oj{bk:Bk}{L:List Row}(hL:∀r∈L,r.args.length<=100000000){w:gJ}(hw:WG w){pl:Int}(k:Nat):∀(n:Nat){env:List (ByteArray×Int)}{rows:List Row}{l l':OL}(_:rows.length=n)(_:∀r∈rows,r∈L)(_:bT bk L k env w pl rows l=.ok l')(_:LG l),LG l':=by
 induction k using Nat.strongRecOn with
 |ind k ihk=>
 intro n
 induction n using Nat.strongRecOn with
 |ind n ih=>
 intro env rows l l' hn hr h hl
 cases rows with
 |nil=>rw[xB]at h;cases h;exact hl
 |cons r rest=>
  rw[List.length_cons]at hn
  rw[uX]at h
  obtain⟨l1,h1,h2⟩:=Gf h
  refine ih _ (by rw[List.length_drop];omega) rfl (fun x hx=>hr x (List.mem_cons_of_mem _ (List.mem_of_mem_drop hx))) h2 ?_
  split at h1
  ·exact zs (I:=LG) (fun a b oL ha=>ih _ (by rw[yA];omega) rfl (fun x hx=>hr x (List.mem_cons_of_mem _ (List.mem_of_mem_take hx))) oL ha) _ _ _ h1 hl
  ·unfold iU at h1
   have Hi:=hL r (hr r (List.mem_cons_self ..))
   split at h1
   ·exact xP h1 hl (D5 (by simpa using Hi) hw)
   ·split at h1
    ·cases h1;exact hl
    ·split at h1
     ·cases h1;exact hl
     ·split at h1
      ·rename_i hi
       exact ihk _ hi _ rfl (fun x hx=>List.mem_of_mem_drop (List.mem_of_mem_take hx)) h1 hl
      ·cases h1;exact hl
theorem LJ{bk:Bk}{L:List Row}(hL:∀r∈L,r.args.length<=100000000){w:gJ}(hw:WG w){pl:Int}{k:Nat}{nm:ByteArray}{qs:List Int}{l l':OL}(hq:qs.length<=100000000)(h:iU bk L k nm qs w pl l=.ok l')(hl:LG l):LG l':=by
 unfold iU at h
 split at h
 ·exact xP h hl (D5 hq hw)
 ·split at h
  ·cases h;exact hl
  ·split at h
   ·cases h;exact hl
   ·split at h
    ·exact Oj hL hw _ _ rfl (fun x hx=>List.mem_of_mem_drop (List.mem_of_mem_take hx)) h hl
    ·cases h;exact hl
theorem Ia(x:Int):0<=IntKind.u64.wrap x/\IntKind.u64.wrap x<18446744073709551616:=by
 have e:IntKind.u64.wrap x=x%18446744073709551616:=by unfold IntKind.wrap;rfl
 rw[e];omega
theorem Jx{w w':gJ}{g:fZ}{n:Int}(h:mZ w g n=some w'):WG w':=by
 unfold mZ at h
 split at h
 ·cases h
 ·cases h
  exact⟨Ia _,Ia _⟩
theorem Ls{bk:Bk}{L:List Row}(hL:∀r∈L,r.args.length<=100000000)(n:Nat):∀{w:gJ}{rows:List Row}{l l':OL}(_:WG w)(_:rows.length=n)(_:∀r∈rows,r∈L)(_:gU bk L w rows l=.ok l')(_:LG l),LG l':=by
 induction n using Nat.strongRecOn with
 |ind n ih=>
 intro w rows l l' hw hn hr h hl
 cases rows with
 |nil=>rw[um]at h;cases h;exact hl
 |cons r rest=>
  rw[List.length_cons]at hn
  rw[uU]at h
  obtain⟨l1,h1,h2⟩:=Gf h
  have Hi:=hL r (hr r (List.mem_cons_self ..))
  refine ih _ (by rw[List.length_drop];omega) hw rfl (fun x hx=>hr x (List.mem_cons_of_mem _ (List.mem_of_mem_drop hx))) h2 ?_
  unfold uH at h1
  split at h1
  ·exact zs (I:=LG) (fun a b oL ha=>ih _ (by rw[yA];omega) hw rfl (fun x hx=>hr x (List.mem_cons_of_mem _ (List.mem_of_mem_take hx))) oL ha) _ _ _ h1 hl
  split at h1
  ·split at h1
   ·cases h1;exact hl
   ·split at h1
    ·cases h1;exact hl
    ·rename_i w' iw
     exact ih _ (by rw[yA];omega) (Jx iw) rfl (fun x hx=>hr x (List.mem_cons_of_mem _ (List.mem_of_mem_take hx))) h1 hl
  split at h1
  ·exact LJ hL hw (by simpa using Hi) h1 hl
  split at h1
  ·split at h1
   ·exact xP h1 hl (D5 (by simp) hw)
   ·cases h1;exact hl
  split at h1
  ·exact xP h1 hl (D5 (by simpa using Hi) hw)
  cases h1;exact hl
end
section
open Go.Ab
attribute [-simp] aX aF
section
variable {h:AH} {M:Nat->Prop} {R:AE->AH->Prop} {xr:AV}
def j9:Bk:=⟨[],[],[]⟩
theorem TS(hx:cG xr=true/\cM xr=some [xr])(hR:∀p qm bm gm h',PA h.next h' p xr j9 [] qm bm gm 0->Fr h h' (fun _=>False)->R (.ret (.ptr p 0)) h'):aE Pg 20 [xr] h M R:=by
 apply QZ.aM
 unfold QZ.n2 QZ.n1
 refine Ac (enc:=Sb) fun qm h1 o1 hq f1=>Ac (enc:=Sb) fun bm h2 o2 hb f2=>Ac (enc:=Sb) fun gm h3 o3 hg f3=>?_
 refine⟨[xr,.mp qm,.mp bm,.mp gm,aW,I 0,I 0,aW,I 0],by simp[dM,putCells,hx.2],?_⟩
 refine dB (by show(cG xr&&_)=true;rw[hx.1];rfl) fun p h4 f4 hp o4=>?_
 have iT:=(f1.bX f2).bX (f3.bX f4)
 have n1:=f1.next
 have n2:=f2.next
 have n3:=f3.next
 have l1:=h1.lt _ _ o1
 have l2:=h2.lt _ _ o2
 have fin:=hR p qm bm gm h4 ⟨⟨by omega,hq,by omega,by omega,(fun _ h=>by cases h)⟩,o4,⟨f4.bM (f3.bM (f2.bM o1)),f4.bM (f3.bM o2),f4.bM o3,rfl,(fun k d id h=>by cases h),.nil,by omega⟩⟩ iT
 simpa using fin
end
theorem CA:lL j9:=⟨⟨⟨by decide,by decide,(fun _ h=>by cases h),(fun _ h=>by cases h),(fun _ h=>by cases h)⟩,.nil⟩,(fun _ h=>by cases h)⟩
theorem Xf:l7 Pg 27=some true:=by kernel_rfl
theorem Zv:fW Pg 27=some 3:=by kernel_rfl
theorem CF{h:AH}{R:AE->AH->Prop}{v:Nat}{q b:Int}{xo:AV}{a e:Int}(ho:h.obj v=some (aN [I q,I b,xo] 3 27))(hR:R (.ret (.dY [.agg [I q,I b,xo],I a,I e])) h):aJ Pg [.cell 2 27,.tmp 3,.tmp 4] R [.ptr v 0,I a,I e] h:=by
 unfold aJ l9
 rw[Xf,Zv]
 refine di ho rfl fun _=>?_
 simpa[l9,jo] using hR
theorem BT{q b:Int}:∀{l:List dS}{i:Nat}{n:Int},0<=(iF q b l i n).1
 |[],_,_=>by simp[iF]
 |o::l,i,n=>by
  unfold iF
  split
  ·simp
  ·split
   ·simp
   ·exact BT
theorem DG{q b:Int}{l:List dS}:0<=(gQ q b l).1:=by
 unfold gQ
 split
 ·simp
 ·split
  ·simp
  ·exact BT
theorem uY:dM (fun i=>[(0,1),(1,1),(2,1)][i]?) ([Value.int .i64 0,.int .i64 0,.slice none 0 0].map .sc) []=some [I 0,I 0,aW]:=rfl
section
variable {h:AH} {M:Nat->Prop} {R:AE->AH->Prop} {xr:AV} {rs:List (Row×AV)}
structure yi (h:AH) (f:QQ) (xo:AV) (yl:List (dS×AV)):Prop where
 o:kz h xo yl
 e:yl.map (·.1)=f.ops
 g:∀y∈yl,OG y.1
 n:yl.length<=4096
structure mM (n0:Nat) (h:AH) (xo:AV) (yl:List (dS×AV)):Prop where
 o:bN cf 7 49 h xo yl
 n:cP (n0<=·) xo
 qs:∀y∈yl,bN cq 1 3 h y.2 y.1.aI/\cP (n0<=·) y.2
 pw:yl.Pairwise fun a b=>Sep a.2 b.2
theorem Aj(rt:RT h xr rs)(hn:∀y∈rs,y.1.num<=9223372036854775807)
  (hR:∀xo yl h',yi h' (dj (rs.map (·.1))) xo yl->mM h.next h' xo yl->Fr h h' (fun _=>False)->R (.ret (.dY [.agg [I (dj (rs.map (·.1))).q,I (dj (rs.map (·.1))).b,xo],I (dj (rs.map (·.1))).at_,I (dj (rs.map (·.1))).err])) h'):aE Pg 10 [xr] h M R:=by
 apply ld.aM
 unfold ld.b_
 have hv:=AH.cm h (aN ([Value.int .i64 0,.int .i64 0,.slice none 0 0].map AV.sc) 3 27)
 rw[aX]
 refine⟨rfl,?_⟩
 have f1:Fr h (h.alloc (aN ([Value.int .i64 0,.int .i64 0,.slice none 0 0].map AV.sc) 3 27)) (fun _=>False):=Fr.refl.alloc _
 generalize h.alloc (aN ([Value.int .i64 0,.int .i64 0,.slice none 0 0].map AV.sc) 3 27)=h1 at *
 obtain⟨v,rM⟩:∃v,v=h.next:=⟨_,rfl⟩
 rw[<-rM]at hv ⊢
 have ov:h1.obj v=some (aN [I 0,I 0,aW] 3 27):=hv
 have ic:=rt.aU f1
 unfold ld.bQ
 refine⟨fun _=>False,fun _ h=>h.elim,TS ic.r.one fun p qm bm gm h2 pa f2=>?_⟩
 have cw:=f1.bX f2
 have pX:=rt.aU cw
 have Us:v<h1.next:=h1.lt _ _ ov
 generalize yI:h1.next=n0 at *
 have Uv:v<n0:=Us
 have yu:h.next<=n0:=by have:=f1.next;omega
 have CL:∀{T:TypeId->Bool}{a b:AH},Fr h a (fun _=>False)->Fr a b (TW T n0 a)->Fr h b fun _=>False:=fun fa fb=>fa.trans (fb.mono fun id hid=>.inr (zR yu hid.1))
 have sB:h2.obj v=some (aN [I 0,I 0,aW] 3 27):=f2.bM ov
 have Wv:∀id,n0<=id->(M id\/v<=id):=fun id hid=>.inr (by omega)
 simp only[ld.bO,pX.r.len.1,pX.r.len.2,zH]
 have er:(rs.length:Int)=((0:Nat):Int)+(rs.length:Int):=by simp
 have nG:sg rs 0 rs.length=rs.map (·.1):=by unfold sg;simp
 have hL:∀r∈rs.map (·.1),r.args.length<=100000000:=fun r hr=>by
  obtain⟨z,hz,rfl⟩:=List.mem_map.1 hr
  exact(rt.a z hz).2
 have fin:∀{h':AH}{xo:AV}{yl:List (dS×AV)},h'.obj v=some (aN [I (dj (rs.map (·.1))).q,I (dj (rs.map (·.1))).b,xo] 3 27)->yi h' (dj (rs.map (·.1))) xo yl->mM h.next h' xo yl->Fr h h' (fun _=>False) ->
   aJ Pg [.cell 2 27,.tmp 3,.tmp 4] R [.ptr v 0,I (dj (rs.map (·.1))).at_,I (dj (rs.map (·.1))).err] h':=fun ho ha hn hf=>CF ho (hR _ _ _ ha hn hf)
 have zero:∀{h':AH}{a e:Int},dj (rs.map (·.1))=⟨0,0,[],a,e⟩->h'.obj v=some (aN [I 0,I 0,aW] 3 27)->Fr h h' (fun _=>False)->aJ Pg [.cell 2 27,.tmp 3,.tmp 4] R [.ptr v 0,I a,I e] h':=fun{h' a e} he ho hf=>by
  have:=fin (h':=h') (xo:=aW) (yl:=[])
  rw[he]at this
  exact this ho ⟨⟨.inl ⟨rfl,rfl⟩,(fun _ h=>by cases h)⟩,rfl,(fun _ h=>by cases h),by simp⟩ ⟨.inl ⟨rfl,rfl⟩,(fun _ _ _ e=>by cases e),(fun _ h=>by cases h),.nil⟩ hf
 have qn:∀{h':AH}{x y z:AV},h'.obj v=some (aN [I 0,I 0,aW] 3 27)->(h'.put v 0 [x,y,z]).obj v=some (aN [x,y,z] 3 27):=fun ho=>by rw[cX ho];rfl
 have qu:∀{h':AH}{cs:List AV},Fr h h' (fun _=>False)->Fr h (h'.put v 0 cs) fun _=>False:=fun hf=>hf.put (.inr (by omega))
 rw[er]
 refine⟨TW TP n0 h2,fun id hs _=>Wv id hs.1,RA rs.length (a:=0) (deep:=0) (own:=none) (bk:=j9) (ids:=[]) pa pX CA.i rfl (by omega) (by omega) (fun _ h=>h) ?_ ?_⟩
 ·intro pl e h3 hl hp f3
  rw[nG]at hl
  obtain⟨cs,hp,c8⟩:=hp
  have dR:=CL cw f3
  have nh:h3.obj v=some (aN [I 0,I 0,aW] 3 27):=TW.obj f3 sB rfl
  have h0:(e != 0)=true:=by simpa using Da _ rfl hl
  have KE:v≠p:=fun e=>by have:=pa.n.1;omega
  have iK:dj (rs.map (·.1))=⟨0,0,[],pl,e⟩:=by
   unfold dj
   rw[show(⟨[],[],[]⟩:Bk)=j9 from rfl,hl]
  simp only[ld.bH,b5,h0,ld.bz,aj,zD,zF,zC,zI,ld.bC]
  refine⟨fun _=>p,fun _ _=>by rw[hp];simp,⟨_,uY,?_⟩⟩
  simp only[aD,ag,au,hp,ao,zG,c8,ab,zH,aF,nh,eY,bG]
  refine⟨⟨⟨.inr (by omega),fun _ _=>KE⟩,rfl,rfl,by simp⟩,?_⟩
  simp only[ld.bD]
  exact zero iK (qn nh) (qu dR)
 ·intro bk idl pl h3 hl AP f3
  rw[nG]at hl
  have sP:=hl
  have dR:=CL cw f3
  have nh:h3.obj v=some (aN [I 0,I 0,aW] 3 27):=TW.obj f3 sB rfl
  have rz:=rt.aU dR
  obtain⟨bf,_,_,IU⟩:=uK hL rs.length (deep:=0) (own:=none) (i:=0) (bk:=j9) (bR:=bk) (by simp) CA (fun k h=>by cases h) (by rw[<-oC,nG];exact hl)
  obtain⟨ms,_,KR⟩:=IU bk jX.refl bf
  have ms:=ms rfl
  rw[<-oC]at ms
  have sc:SC bk rs:=⟨bf,fun k d hd=>KR k (Nat.zero_le _) (zM.1 hd).1 d hd,hn⟩
  have wA:PX n0 h3 p xr bk ([]++idl) qm bm gm [] pl aW aW:=⟨⟨AP.n.1,(fun _ _ _ e=>by cases e),(fun _ _ _ e=>by cases e)⟩,AP.p,AP.m,.nil,⟨[],.nil,rfl,(fun _ h=>by cases h),.nil⟩,by simp⟩
  have FT:((0:Int) != 0)=false:=rfl
  simp only[ld.bH,b5,FT,ld.bz,aj,zE,zD,zC,zH,ld.bt,rz.r.len.1,rz.r.len.2]
  refine⟨[B false,U 0,U 0],rfl,?_⟩
  rw[er]
  refine⟨TW TQ n0 h3,fun id hs _=>Wv id hs.1,W8 sc rs.length h3 _ _ 0 ⟨false,0,0⟩ pl aW aW [] wA rz (by simp) ms (fun _ h=>h) ?_ ?_⟩
  ·intro e h4 hd hp f4
   rw[nG]at hd
   obtain⟨_,_,_,sx⟩:=hp
   have iT:=CL dR f4
   have yp:h4.obj v=some (aN [I 0,I 0,aW] 3 27):=TW.obj f4 nh rfl
   have KE:v≠p:=fun e=>by have:=pa.n.1;omega
   have iK:dj (rs.map (·.1))=⟨0,0,[],e,115⟩:=by
    unfold dj
    rw[show(⟨[],[],[]⟩:Bk)=j9 from rfl,hl]
    simp only[hd]
   simp only[dq,zT,ld.bc,aj,zD,zF,zC,zI,ld.a_]
   refine⟨fun _=>p,fun _ _=>by rw[sx.p];simp,⟨_,uY,?_⟩⟩
   simp only[aD,ag,au,sx.p,ao,zG,zA,zB,ab,zH,aF,yp,eY,bG]
   refine⟨⟨⟨.inr (by omega),fun _ _=>KE⟩,rfl,rfl,by simp⟩,?_⟩
   simp only[ld.aQ]
   exact zero iK (qn yp) (qu iT)
  ·intro l fD xp xo h4 hd sx f4
   rw[nG]at hd
   have iT:=CL dR f4
   have yp:h4.obj v=some (aN [I 0,I 0,aW] 3 27):=TW.obj f4 nh rfl
   have lg:LG l:=Ls hL _ ⟨⟨by decide,by decide⟩,⟨by decide,by decide⟩⟩ rfl (fun _ h=>h) hd (fun _ h=>by cases h)
   obtain⟨yl,o1,o2,o3,o4⟩:=sx.o
   have Cu:kz h4 xo yl:=⟨o1.cF,fun y hy=>(o3 y hy).1.cF⟩
   have Dn:∀y∈yl,OG y.1:=fun y hy=>by
    have:y.1∈l.map (·.1):=by rw[<-o2];exact List.mem_map_of_mem hy
    obtain⟨x,hx,e⟩:=List.mem_map.1 this
    rw[<-e];exact lg x hx
   have nl:yl.length<=4096:=by
    have:=congrArg List.length o2
    have:=sx.len
    simp only[zZ]at *;omega
   simp only[dq,zS,ld.bc,aj,zE,zD,zC,zH,ld.n9,aD,ag,oF,sx.p,mG,zG,List.drop_succ_cons,List.drop_zero,List.take_succ_cons,List.take_zero]
   refine⟨by simp,?_⟩
   refine⟨fun _=>False,fun _ h=>h.elim,Og Cu (fun y hy=>zR (Dn y hy).1 (by decide)) fun h5 f5=>?_⟩
   rw[o2]
   have qM:=iT.bX f5
   have tN:=sx.aU f5
   have wH:=f5.bM yp
   have IR:=Cu.aU f5
   have iK:dj (rs.map (·.1))=if (gQ (aK bk.qs) (aK bk.bs) (l.map (·.1))).2≠0 then⟨0,0,[],(match l[(gQ (aK bk.qs) (aK bk.bs) (l.map (·.1))).1.toNat]? with |some x=>x.2 |none=>0),(gQ (aK bk.qs) (aK bk.bs) (l.map (·.1))).2⟩ else⟨aK bk.qs,aK bk.bs,l.map (·.1),0,0⟩:=by
    conv=>lhs;unfold dj
    rw[show(⟨[],[],[]⟩:Bk)=j9 from rfl,hl]
    simp only[hd]
    all_goals rfl
   have P7:=DG (q:=aK bk.qs) (b:=aK bk.bs) (l:=l.map (·.1))
   generalize gQ (aK bk.qs) (aK bk.bs) (l.map (·.1))=c at *
   obtain⟨c1,c2⟩:=c
   simp only at iK P7
   simp only[Cc,dN,zA,zB,ab,ld.n8,b5]
   by_cases k1:c2=0
   ·rw[zW (by simpa using k1)]at iK
    have eK:(c2 != 0)=false:=by simp[k1]
    simp only[eK,ld.n7,aj,zE,zD,zC,zH,ld.n1,aD,ag,oF,tN.p,mG,zG,List.drop_succ_cons,List.drop_zero,List.take_succ_cons,List.take_zero]
    refine⟨by simp,?_⟩
    simp only[aF,wH,eY,bG]
    have hx:=IR.fc.one.1
    refine⟨⟨.inr (by omega),by show(true&&(true&&(cG xo&&true)))=true;rw[hx];rfl,rfl,by simp⟩,?_⟩
    have:=fin (h':=h5.put v 0 [I (aK bk.qs),I (aK bk.bs),xo]) (xo:=xo) (yl:=yl)
    rw[iK]at this
    have fv:Fr h5 (h5.put v 0 [I (aK bk.qs),I (aK bk.bs),xo]) (·=v):=Fr.refl.put (.inl rfl)
    have AU:bN cf 7 49 h5 xo yl:=o1.aO f5 fun _ _ h=>h
    have q5:∀y∈yl,bN cq 1 3 h5 y.2 y.1.aI:=fun y hy=>(o3 y hy).1.aO f5 fun _ _ h=>h
    have up:∀{x:AV},cP (n0<=·) x->cP (h.next<=·) x:=fun hx i of n e=>zR yu (hx i of n e)
    refine this (qn wH) ⟨⟨IR.fc.fr fv fun id o ho ht e=>?_,fun y hy=>(IR.qs y hy).fr fv fun id o ho ht e=>?_⟩,o2,Dn,nl⟩ ⟨AU.aO fv fun id e he=>?_,up sx.n.2.2,fun y hy=>⟨(q5 y hy).aO fv fun id e he=>?_,up (o3 y hy).2.2⟩,o4⟩ (qu qM)
    ·subst e;rw[wH]at ho;cases ho;exact absurd (ht rfl) (show(27:Nat)≠49 by decide)
    ·subst e;rw[wH]at ho;cases ho;exact absurd (ht rfl) (show(27:Nat)≠3 by decide)
    ·subst he;exact fM AU wH (show(27:Nat)≠49 by decide) ⟨_,_,e⟩
    ·subst he;exact fM (q5 y hy) wH (show(27:Nat)≠3 by decide) ⟨_,_,e⟩
   ·rw[zX k1]at iK
    have eK:(c2 != 0)=true:=by simpa using k1
    simp only[eK,ld.n7,aj,zD,zF,zC,zI,ld.n6,aD,ag,au,tN.p,ao,zG,zA,zB,ab,tN.x.cF.len.1,tN.x.cF.len.2,zH,zZ,aZ]
    by_cases k2:c1<l.length
    ·obtain⟨x,hx⟩:∃x,l[c1.toNat]?=some x:=⟨l[c1.toNat]'(by omega),zJ _⟩
     rw[hx]at iK
     simp only[zL k2,ld.n5,aj,zD,zF,zC,zI,ld.n4]
     rcases tN.x with⟨_,e0⟩ |⟨ix,rfl,Ff⟩
     ·have:l=[]:=by simpa using e0
      subst this
      simp at k2;omega
     ·have KE:v≠p:=fun e=>by have:=pa.n.1;omega
      have Up:v≠ix:=ci wH Ff (show(27:Nat)≠3 by decide)
      have uQ:((l.map (·.2)).flatMap cq)[c1.toNat]?=some (I x.2):=by
       have:=fm (f:=cq) (k:=1) eX (l.map (·.2)) c1.toNat 0 (by omega)
       rw[Nat.mul_one,Nat.add_zero,List.getElem?_map,hx]at this
       exact this
      refine⟨fun i=>if i=4 then p else ix,fun i _=>by show h5.obj (if i=4 then p else ix)≠none;split<;>simp[tN.p,Ff],⟨_,uY,?_⟩⟩
      simp only[aD,ag,au,tN.p,ao,zG,zA,zB,ab,zV,zH,kL,Ff,Nat.mul_one,uQ,zZ]
      refine⟨⟨by omega,by omega⟩,by simp,?_⟩
      simp only[aF,wH,eY,bG]
      refine⟨⟨⟨.inr (by omega),fun i _=>by show v≠(if i=4 then p else ix);split;exact KE;exact Up⟩,rfl,rfl,by simp⟩,?_⟩
      simp only[ld.n3]
      exact zero iK (qn wH) (qu qM)
    ·have hx:l[c1.toNat]?=none:=List.getElem?_eq_none (by omega)
     rw[hx]at iK
     simp only[zK k2,ld.n5,aj,zE,zD,zC,zH,ld.n2]
     refine⟨_,uY,?_⟩
     simp only[aF,wH,eY,bG]
     refine⟨⟨.inr (by omega),rfl,rfl,by simp⟩,?_⟩
     exact zero iK (qn wH) (qu qM)
theorem RO(rt:RT h xr rs)(hn:∀y∈rs,y.1.num<=9223372036854775807)
  (hR:∀xo yl h',yi h' (dj (rs.map (·.1))) xo yl->Fr h h' (fun _=>False)->R (.ret (.dY [.agg [I (dj (rs.map (·.1))).q,I (dj (rs.map (·.1))).b,xo],I (dj (rs.map (·.1))).at_,I (dj (rs.map (·.1))).err])) h'):aE Pg 10 [xr] h M R:=
 Aj rt hn fun xo yl h' a _ f=>hR xo yl h' a f
end
end
end Go.Proofs.Ytjehibknlmehmaa
