/- What is looked at is good; flat writes out what the plain form says; some examples. No condition. -/
import Derived.Test.YtjehibknlmehmaaGreatDoorFak
import Derived.Test.YtjehibknlmehmaaGreatDoorGrk
set_option maxRecDepth 100000
namespace Go.Proofs.YtjehibknlmehmaaGreatDoor
section
open Go.Ab
structure jH (a b:Bk):Prop where
 q:∃l,b.qs=a.qs++l
 bb:∃l,b.bs=a.bs++l
 d:fP a b
theorem jH.refl{a:Bk}:jH a a:=⟨⟨[],by simp⟩,⟨[],by simp⟩,fP.refl⟩
theorem jH.trans{a b c:Bk}(h1:jH a b)(h2:jH b c):jH a c:=by
 obtain⟨⟨q1,e1⟩,⟨b1,e2⟩,d1⟩:=h1
 obtain⟨⟨q2,e3⟩,⟨b2,e4⟩,d2⟩:=h2
 exact⟨⟨q1++q2,by rw[e3,e1,List.append_assoc]⟩,⟨b1++b2,by rw[e4,e2,List.append_assoc]⟩,d1.trans d2⟩
structure oS (bk:Bk):Prop where
 i:l6 bk
 a:∀d∈bk.ds,dE d.name=0/\Gf d.params=false
theorem CO{l m:List fJ}{n:ByteArray}{g:fJ}(h:dC l n=some g):dC (l++m) n=some g:=by
 unfold dC at h ⊢
 rw[List.find?_append,h];rfl
theorem x_{l m:List fJ}{a:Arg}(h:ij l a=0):ij (l++m) a=0:=by
 unfold ij at h ⊢
 cases hr:dC l a.name with
 |none=>rw[hr]at h;cases h
 |some g=>rw[hr]at h;rw[CO hr];exact h
theorem oS.modify{bk:Bk}(a:oS bk){k:Nat}{f:dH->dH}(hf:∀d,core (f d)=core d)(hd:∀d∈bk.ds,0<=(f d).depth/\(f d).depth<=100/\0<=(f d).ops/\(f d).ops<=4097):oS { bk with ds:=bk.ds.modify k f }/\jH bk { bk with ds:=bk.ds.modify k f }:=by
 obtain⟨h1,h2⟩:=a.i.modify (k:=k) hf hd
 refine⟨⟨h1,fun d h=>?_⟩,⟨[],by simp⟩,⟨[],by simp⟩,h2⟩
 rcases mem_modify h with h3 |⟨e,h3,rfl⟩
 ·exact a.a d h3
 ·rw[show(f e).name=e.name from congrArg (·.1) (hf e),show(f e).params=e.params from congrArg (·.2.1) (hf e)]
  exact a.a e h3
theorem Gh{bk:Bk}{n:ByteArray}{d:dH}(h:gE bk.ds n=some d):∃k:Nat,bk.ds[k]?=some d/\d.name=n:=by
 have h1:=List.mem_of_find?_eq_some h
 have h2:=List.find?_some h
 obtain⟨k,hk⟩:=List.mem_iff_getElem?.1 h1
 exact⟨k,hk,by simpa using h2⟩
def At(bk:Bk)(k:Nat)(r:Row):Prop:=(gE bk.ds r.name=none/\0<dE r.name/\(r.args.length:Int)=dE r.name)\/∃j d,j<k/\bk.ds[j]?=some d/\d.name=r.name/\r.args.length=d.params.length/\dE r.name=0
inductive GB (bk:Bk) (k:Nat) (ps:List ByteArray):List Row->Prop
 |nil:GB bk k ps []
 |vf {r:Row} {l:List Row} (h0:r.kind=bw) (h1:r.rows=0) (h2:At bk k r) (h3:∀a∈r.args,gB a.name ps=true) (h4:GB bk k ps l):GB bk k ps (r::l)
 |vg {r:Row} {l:List Row} (h0:r.kind=aG) (h1:0<=r.rows/\r.rows<=l.length) (h2:GB bk k ps (l.take r.rows.toNat)) (h3:GB bk k ps (l.drop r.rows.toNat)):GB bk k ps (r::l)
structure O4 (bk:Bk) (r:Row):Prop where
 u:r.kind=bw->At bk bk.ds.length r/\∀a∈r.args,ij bk.qs a=0
 i:r.kind=cz->∃g,dC bk.bs r.name=some g/\0<=r.num/\(g.size<63->r.num<2^g.size.toNat)
 m:r.kind=aQ->∃a b,r.args=[a,b]/\ij bk.qs a=0/\ij bk.bs b=0
 s:r.kind=bB->∃a,r.args=[a]/\ij bk.qs a=0
inductive GO (bk:Bk):List Row->Prop
 |nil:GO bk []
 |cons {r:Row} {l:List Row} (h0:0<=r.rows/\r.rows<=l.length) (h1:O4 bk r) (h2:r.kind=aG\/r.kind=cz->GO bk (l.take r.rows.toNat)) (h3:GO bk (l.drop r.rows.toNat)):GO bk (r::l)
def JW(bk:Bk)(L:List Row)(k:Nat):Prop:=∀d,bk.ds[k]?=some d->∃a n:Nat,d.from_=a/\d.J7=a+n/\a+n<=L.length/\GB bk k d.params ((L.drop a).take n)
theorem yV{f:Arg->Int}:∀{l:List Arg},ft f l=0->∀a∈l,f a=0
 |[],_,a,h=>by cases h
 |b::l,h,a,ha=>by
  unfold ft at h
  split at h
  ·rename_i hb;exact absurd h hb
  ·rename_i hb
   rcases List.mem_cons.1 ha with rfl |ha
   ·exact Classical.not_not.1 hb
   ·exact yV h a ha
theorem jH.Wn{a b:Bk}(m:jH a b){k:Nat}{d:dH}(h:a.ds[k]?=some d):∃d',b.ds[k]?=some d'/\core d'=core d:=m.d.at_ h
def Ud(bf:Bk)(own:Option Nat):Nat:=own.getD bf.ds.length
theorem CI{bk b9 bf:Bk}{own:Option Nat}{r:Row}(a:oS bk)(ho:∀k,own=some k->k+1=bk.ds.length)(h:lG bk own r=.ok b9)(hm:jH bk bf)(hf:oS bf) :
  At bf (Ud bf own) r/\(own=none->∀x∈r.args,ij bf.qs x=0)/\∀k,own=some k->∀d,bf.ds[k]?=some d->∀x∈r.args,gB x.name d.params=true:=by
 unfold lG at h
 split at h
 ·cases h
 rename_i h1
 split at h
 ·cases h
 rename_i h2
 split at h
 ·cases h
 rename_i h3
 split at h
 ·cases h
 rename_i h4
 have h4:=yV (Classical.not_not.1 h4)
 have h3:=Classical.not_not.1 h3
 refine⟨?_,?_,?_⟩
 ·unfold l7 at h2 h3
  cases hd:gE bk.ds r.name with
  |none=>
   rw[hd]at h2 h3
   simp only at h2 h3
   have hr:=(DX r.name).1
   refine .inl ⟨?_,by omega,h3⟩
   cases sD:gE bf.ds r.name with
   |none=>rfl
   |some d'=>
    obtain⟨k,g1,g2⟩:=Gh sD
    have:=(hf.a d' (zP g1)).1
    rw[g2]at this;exact absurd this h2
  |some d=>
   rw[hd]at h2 h3
   simp only at h2 h3
   obtain⟨j,g1,g2⟩:=Gh hd
   have g3:=(a.a d (zP g1)).1
   rw[g2]at g3
   obtain⟨d',g4,g5⟩:=hm.Wn g1
   have n':d'.name=d.name:=congrArg (·.1) g5
   have p':d'.params=d.params:=congrArg (·.2.1) g5
   refine .inr ⟨j,d',?_,g4,n'.trans g2,?_,g3⟩
   ·cases own with
    |none=>exact(zM.1 g4).1
    |some k=>
     have hk:=ho k rfl
     have hj:=(zM.1 g1).1
     have:j≠k:=fun e=>by
      subst e
      apply h1
      unfold pH jY
      simp only[Option.bind_some,g1,g2,decide_true]
     unfold Ud;simp only[Option.getD_some];omega
   ·rw[p']
    cases hw:d.whole with
    |true=>rw[hw]at h3;simp only[zV]at h3;omega
    |false=>rw[hw]at h2;simp only[zE,if_false]at h2;exact absurd g3 h2
 ·rintro rfl x hx
  obtain⟨l,e⟩:=hm.q
  rw[e]
  exact x_ (h4 x hx)
 ·rintro k rfl d hd x hx
  have hk:=ho k rfl
  have aJ:k<bk.ds.length:=by omega
  obtain⟨d',g4,g5⟩:=hm.Wn (zJ aJ)
  rw[hd]at g4;cases g4
  have p':d.params=bk.ds[k].params:=congrArg (·.2.1) g5
  have:=h4 x hx
  unfold fG jY at this
  simp only[Option.bind_some,zJ aJ]at this
  rw[p']
  split at this
  ·cases this
  ·split at this
   ·assumption
   ·cases this
theorem BN{bk:Bk}{l l':List fJ}{r:Row}(hd:f_ bk l 64 r=.ok l'):∃m,l'=l++m:=by
 unfold f_ at hd
 split at hd
 ·cases hd
 split at hd
 ·cases hd
 split at hd
 ·cases hd
 cases hd
 exact⟨_,rfl⟩
theorem Kk{bk b9:Bk}{own:Option Nat}{i:Int}{r:Row}(a:oS bk)(hl:r.args.length<=100000000)(h:fQ bk own i r=.ok b9):jH bk b9/\oS b9:=by
 obtain⟨b1,x1,_,_,_⟩:=xH a.i hl h
 have same:∀e,ot e bk=.ok b9->b9=bk:=fun e h=>by
  unfold ot at h
  split at h<;>cases h
  rfl
 have fin:b9=bk->jH bk b9/\oS b9:=fun e=>by subst e;exact⟨jH.refl,a⟩
 unfold fQ at h
 split at h
 ·cases hd:f_ bk bk.qs 64 r with
  |error e=>rw[hd]at h;cases h
  |ok l=>rw[hd]at h;cases h;exact⟨⟨BN hd,⟨[],by simp⟩,x1⟩,⟨b1,a.a⟩⟩
 split at h
 ·cases hd:f_ bk bk.bs 64 r with
  |error e=>rw[hd]at h;cases h
  |ok l=>rw[hd]at h;cases h;exact⟨⟨⟨[],by simp⟩,BN hd,x1⟩,⟨b1,a.a⟩⟩
 split at h
 ·have hd:=h
  unfold uJ at h
  split at h
  ·cases h
  split at h
  ·cases h
  split at h
  ·cases h
  split at h
  ·cases h
  rename_i oO
  obtain⟨_,_,e,ht⟩:=Ie a.i hl hd
  subst e
  refine⟨⟨⟨[],by simp⟩,⟨[],by simp⟩,x1⟩,⟨b1,fun d hd=>?_⟩⟩
  rcases List.mem_append.1 hd with hd |hd
  ·exact a.a d hd
  ·have:=List.mem_singleton.1 hd
   subst this
   have h1:=(CK ht).2.2.2
   have h2:=(DX r.name).1
   exact⟨by simp only;omega,by simpa using oO⟩
 split at h
 ·split at h
  ·cases h
  ·cases h;exact fin rfl
 split at h
 ·unfold sx at h
  split at h
  ·cases h
  ·split at h
   ·cases h
   ·cases h;exact fin rfl
 split at h
 ·unfold lG at h
  split at h
  ·cases h
  split at h
  ·cases h
  split at h
  ·cases h
  split at h
  ·cases h
  split at h
  ·cases h
  split at h
  ·cases h
  cases h
  unfold rM at b1 x1 ⊢
  cases own with
  |none=>exact fin rfl
  |some k=>
   refine⟨⟨⟨[],by simp⟩,⟨[],by simp⟩,x1⟩,⟨b1,fun d hd=>?_⟩⟩
   rcases mem_modify hd with h3 |⟨e,h3,rfl⟩
   ·exact a.a d h3
   ·exact a.a e h3
 split at h
 ·unfold na at h
  split at h
  ·split at h
   ·cases h
   ·exact fin (same _ h)
  ·cases h
 split at h
 ·unfold re at h
  split at h
  ·exact fin (same _ h)
  ·cases h
 cases h
 exact fin rfl
theorem H8{e:Int}{bk b9:Bk}(h:ot e bk=.ok b9):e=0:=by
 unfold ot at h
 split at h
 ·cases h
 ·rename_i h0;exact Classical.not_not.1 h0
theorem Kl{bk b9 bf:Bk}{i:Int}{r:Row}(a:oS bk)(h:fQ bk none i r=.ok b9)(hm:jH bk bf)(hf:oS bf):O4 bf r:=by
 have n1:bw≠aS:=by decide
 have n2:bw≠bz:=by decide
 have n3:bw≠aN:=by decide
 have n4:bw≠aG:=by decide
 have n5:bw≠cz:=by decide
 have i1:cz≠aS:=by decide
 have i2:cz≠bz:=by decide
 have i3:cz≠aN:=by decide
 have i4:cz≠aG:=by decide
 have m1:aQ≠aS:=by decide
 have m2:aQ≠bz:=by decide
 have m3:aQ≠aN:=by decide
 have m4:aQ≠aG:=by decide
 have m5:aQ≠cz:=by decide
 have m6:aQ≠bw:=by decide
 have r1:bB≠aS:=by decide
 have r2:bB≠bz:=by decide
 have r3:bB≠aN:=by decide
 have r4:bB≠aG:=by decide
 have r5:bB≠cz:=by decide
 have r6:bB≠bw:=by decide
 have r7:bB≠aQ:=by decide
 unfold fQ at h
 refine⟨fun k=>?_,fun k=>?_,fun k=>?_,fun k=>?_⟩
 ·rw[k,zW n1,zW n2,zW n3,zW n4,zW n5,zX rfl]at h
  obtain⟨h1,h2,_⟩:=CI a (fun k e=>by cases e) h hm hf
  exact⟨h1,h2 rfl⟩
 ·rw[k,zW i1,zW i2,zW i3,zW i4,zX rfl]at h
  unfold sx at h
  split at h
  ·cases h
  ·rename_i g hg
   split at h
   ·cases h
   ·rename_i hn
    obtain⟨l,e⟩:=hm.bb
    exact⟨g,by rw[e];exact CO hg,by omega,fun hs=>by
     have:¬(g.size<63/\2^g.size.toNat<=r.num):=fun h=>hn (.inr h)
     have h2:¬2^g.size.toNat<=r.num:=fun h=>this ⟨hs,h⟩
     exact Int.not_le.1 h2⟩
 ·rw[k,zW m1,zW m2,zW m3,zW m4,zW m5,zW m6,zX rfl]at h
  unfold na at h
  split at h
  ·rename_i x y hxy
   split at h
   ·cases h
   ·rename_i h0
    obtain⟨l,e⟩:=hm.bb
    obtain⟨l',e'⟩:=hm.q
    exact⟨x,y,hxy,by rw[e'];exact x_ (Classical.not_not.1 h0),by rw[e];exact x_ (H8 h)⟩
  ·cases h
 ·rw[k,zW r1,zW r2,zW r3,zW r4,zW r5,zW r6,zW r7,zX rfl]at h
  unfold re at h
  split at h
  ·rename_i x hx
   obtain⟨l',e'⟩:=hm.q
   exact⟨x,hx,by rw[e'];exact x_ (H8 h)⟩
  ·cases h
theorem Nl{bk b9:Bk}{own:Option Nat}{i:Int}{r:Row}(k:r.kind=bw)(h:fQ bk own i r=.ok b9):lG bk own r=.ok b9:=by
 have n1:bw≠aS:=by decide
 have n2:bw≠bz:=by decide
 have n3:bw≠aN:=by decide
 have n4:bw≠aG:=by decide
 have n5:bw≠cz:=by decide
 unfold fQ at h
 rwa [k,zW n1,zW n2,zW n3,zW n4,zW n5,zX rfl]at h
def lI(L:List Row)(a n:Nat):List Row:=(L.drop a).take n
theorem PG{L:List Row}{a n:Nat}{r:Row}(h:L[a]?=some r):lI L a (n+1)=r::lI L (a+1) n:=by
 obtain⟨h1,h2⟩:=zM.1 h
 unfold lI
 rw[List.drop_eq_getElem_cons h1,h2,List.take_succ_cons]
theorem t_{L:List Row}{a n k:Nat}(h:k<=n):(lI L a n).take k=lI L a k:=by
 unfold lI
 rw[List.take_take,Nat.min_eq_left h]
theorem zn{L:List Row}{a n k:Nat}:(lI L a n).drop k=lI L (a+k) (n-k):=by
 unfold lI
 rw[List.drop_take,List.drop_drop]
theorem B1{L:List Row}{a n:Nat}(h:a+n<=L.length):(lI L a n).length=n:=by
 unfold lI
 rw[yA,List.length_drop];omega
theorem AQ{rs:List (Row×AV)}{a n:Nat}:sg rs a n=lI (rs.map (·.1)) a n:=by
 unfold sg lI
 rw[List.map_take,List.map_drop]
theorem IY{L:List Row}(hL:∀r∈L,r.args.length<=100000000)(n:Nat):∀{deep:Nat}{own:Option Nat}{i:Nat}{bk b9:Bk}(_:i+n<=L.length)(_:oS bk)(_:∀k,own=some k->k+1=bk.ds.length/\0<deep)(_:dN deep own i (lI L i n) bk=.ok b9),
  oS b9/\jH bk b9/\(0<deep->b9.ds.length=bk.ds.length)/\∀bf,jH b9 bf->oS bf->(own=none->GO bf (lI L i n))/\(∀k d,own=some k->bf.ds[k]?=some d->GB bf k d.params (lI L i n))/\∀k,bk.ds.length<=k->k<b9.ds.length->JW bf L k:=by
 induction n using Nat.strongRecOn with
 |ind n ih=>
 intro deep own i bk b9 hn a ho h
 cases n with
 |zero=>
  have e0:lI L i 0=[]:=rfl
  rw[e0,jP]at h
  cases h
  exact⟨a,jH.refl,fun _=>rfl,fun bf _ _=>⟨fun _=>.nil,fun _ _ _ _=>.nil,fun k h1 h2=>by omega⟩⟩
 |succ m=>
  obtain⟨r,hr⟩:∃r,L[i]?=some r:=⟨L[i]'(by omega),zJ _⟩
  rw[PG hr,kQ,B1 (by omega)]at h
  rw[PG hr]
  split at h
  ·cases h
  rename_i hf
  obtain⟨f0,f00,f1,f2,_,f3,f4⟩:=Cm (Classical.not_not.1 hf)
  split at h
  ·cases h
  rename_i qA h1
  split at h
  ·cases h
  rename_i ig h2
  have FD:=hL r (zP hr)
  obtain⟨b1,x1,g1,g2,g3⟩:=xH a.i FD h1
  obtain⟨m1,a1⟩:=Kk a FD h1
  obtain⟨k,hk⟩:∃k:Nat,r.rows=k:=⟨r.rows.toNat,by omega⟩
  have rD:k<=m:=by omega
  rw[hk,zY,t_ rD,zn]at h
  rw[hk,zY,t_ rD]at h2
  have eL:∀j,(if r.kind=aN then some bk.ds.length else own)=some j->j+1=qA.ds.length/\0<deep+1:=fun j hj=>by
   by_cases kg:r.kind=aN
   ·rw[zX kg]at hj
    cases hj
    rw[g3 kg]
    exact⟨by simp,by omega⟩
   ·rw[zW kg]at hj
    exact⟨by rw[g2 kg];exact(ho j hj).1,by omega⟩
  obtain⟨a2,m2,l2,q2⟩:=ih k (by omega) (by omega) a1 eL h2
  have l2:=l2 (by omega)
  have key:∀nJ,oS nJ->jH ig nJ->nJ.ds.length=ig.ds.length->dN deep own (i+1+k) (lI L (i+1+k) (m-k)) nJ=.ok b9->oS b9/\jH bk b9/\(0<deep->b9.ds.length=bk.ds.length)/\∀bf,jH b9 bf->oS bf->(own=none->GO bf (r::lI L (i+1) m))/\(∀k d,own=some k->bf.ds[k]?=some d->GB bf k d.params (r::lI L (i+1) m))/\∀k,bk.ds.length<=k->k<b9.ds.length->JW bf L k:=fun nJ a3 m3 l3 h3=>by
   have Vj:∀j,own=some j->j+1=nJ.ds.length/\0<deep:=fun j hj=>by
    obtain⟨z1,z2⟩:=ho j hj
    have kg:r.kind≠aN:=fun e=>by
     have:=f3 (by omega)
     unfold qN at this
     rw[e]at this
     simp at this
    exact⟨by rw[l3,l2,g2 kg];exact z1,z2⟩
   obtain⟨a4,m4,l4,q4⟩:=ih (m-k) (by omega) (by omega) a3 Vj h3
   refine⟨a4,m1.trans (m2.trans (m3.trans m4)),fun hd=>?_,fun bf mf af=>?_⟩
   ·have kg:r.kind≠aN:=fun e=>by
     have:=f3 (by omega)
     unfold qN at this
     rw[e]at this
     simp at this
    rw[l4 hd,l3,l2,g2 kg]
   ·obtain⟨u1,u2,u3⟩:=q2 bf (m3.trans (m4.trans mf)) af
    obtain⟨v1,v2,v3⟩:=q4 bf mf af
    refine⟨fun jd=>?_,fun j d jd hd=>?_,fun j Zu Dm=>?_⟩
    ·subst jd
     refine .cons ⟨f1,by rw[B1 (by omega)];omega⟩ (Kl a h1 (m1.trans (m2.trans (m3.trans (m4.trans mf)))) af) (fun vt=>?_) ?_
     ·have kg:r.kind≠aN:=fun e=>by
       rw[e]at vt
       exact vt.elim (by decide) (by decide)
      rw[hk,zY,t_ rD]
      exact u1 (zW kg)
     ·rw[hk,zY,zn]
      exact v1 rfl
    ·have vt:=f4 (by rw[jd];rfl)
     have kg:r.kind≠aN:=fun e=>by
      rw[e]at vt
      exact vt.elim (by decide) (by decide)
     have w:=v2 j d jd hd
     rcases vt with ku |kr
     ·have hb:ml r.kind=false:=by rw[ku];decide
      have hz:r.rows=0:=f00.elim (fun h=>by rw[hb]at h;cases h) id
      have LA:k=0:=by omega
      subst LA
      obtain⟨z1,_,z3⟩:=CI a (fun k e=>(ho k e).1) (Nl ku h1) (m1.trans (m2.trans (m3.trans (m4.trans mf)))) af
      have z1:At bf j r:=by rw[jd]at z1;exact z1
      exact .vf ku hz z1 (z3 j jd d hd) w
     ·refine .vg kr ⟨f1,by rw[B1 (by omega)];omega⟩ ?_ ?_
      ·rw[hk,zY,t_ rD]
       exact u2 j d (by rw[zW kg];exact jd) hd
      ·rw[hk,zY,zn]
       exact w
    ·by_cases LB:nJ.ds.length<=j
     ·exact v3 j LB Dm
     ·by_cases kg:r.kind=aN
      ·have e1:=g3 kg
       have acF:qA.ds.length=bk.ds.length+1:=by rw[e1];simp
       have hj4:j=bk.ds.length:=by omega
       subst hj4
       intro d hd
       have Dt:qA.ds[bk.ds.length]?=some ⟨r.name,r.args.map (·.name),i+1,i+1+r.rows,1,0,false⟩:=by rw[e1];simp
       obtain⟨d',g4,g5⟩:=(m2.trans (m3.trans (m4.trans mf))).Wn Dt
       rw[hd]at g4;cases g4
       refine⟨i+1,k,?_,?_,by omega,u2 _ d (zX kg) hd⟩
       ·have:=congrArg (·.2.2.1) g5
        simp only[core]at this
        omega
       ·have:=congrArg (·.2.2.2) g5
        simp only[core]at this
        omega
      ·have:=g2 kg
       omega
  by_cases kg:r.kind=aN
  ·rw[zX kg]at h
   have hs:qB (lI L (i+1) k):=(Af _ rfl (fun r' wL=>hL r' (List.mem_of_mem_drop (List.mem_of_mem_take wL))) a1.i h2).2.2
   have hb:=xh (ds:=ig.ds) (fun d hd=>(a2.i.ok.ds d hd).2.2.2) hs 0 (by omega)
   obtain⟨a3,m3⟩:=a2.modify (k:=bk.ds.length) (f:=fun d=>{ d with whole:=true,ops:=countP ig.ds (lI L (i+1) k) 0 }) (fun _=>rfl) (fun d hd=>by have:=a2.i.ok.ds d hd;simp only;omega)
   exact key _ a3 m3 (by simp) h
  ·rw[zW kg]at h
   exact key _ a2 jH.refl rfl h
end
section
open Go.Ab
structure iE where
 is:Bool
 cR:Int
 value:Int
abbrev OL:=List (bq×Int)
def ko(k:Int)(n:ByteArray)(qs:List Int)(b:Int)(w:iE):bq:=⟨k,n,qs,b,w.is,w.cR,w.value⟩
def jX(l:OL)(o:bq)(pl:Int):Except Int OL:=if l.length=4096 then .error pl else .ok (l++[(o,pl)])
def hG(f:OL->Except Int OL):Nat->OL->Except Int OL
 |0,l=>.ok l
 |n+1,l=>match f l with |.error e=>.error e |.ok l'=>if l'.length=l.length then .ok l' else hG f n l'
def s9(env:List (ByteArray×Int))(n:ByteArray):Int:=match env.find? (fun x=>decide (x.1=n)) with |some x=>x.2 |none=>0
def uI(l:List dH)(n:ByteArray):Option Nat:=l.findIdx? fun d=>decide (d.name=n)
def xl(L:List Row)(d:dH):List Row:=lI L d.from_.toNat (d.J7-d.from_).toNat
def mm(f:OL->Except Int OL):Except Int OL->Except Int OL
 |.error e=>.error e
 |.ok l=>f l
def bx (bk : Bk) (L : List Row) (k : Nat) (env : List (ByteArray × Int)) (w : iE) (pl : Int) (rows : List Row) (l : OL) : Except Int OL :=
  match rows with
  | [] => .ok l
  | r :: rest =>
    mm (fun l' => bx bk L k env w pl (rest.drop r.rows.toNat) l')
      (if r.kind = aG then hG (fun l' => bx bk L k env w pl (rest.take r.rows.toNat) l') r.num.toNat l
       else match uI bk.ds r.name with
        | none => jX l (ko 1 r.name (r.args.map fun a => s9 env a.name) 0 w) pl
        | some i => match bk.ds[i]? with
          | none => .ok l
          | some d => if d.ops = 0 then .ok l else if i < k then bx bk L i (d.params.zip (r.args.map fun a => s9 env a.name)) w pl (xl L d) l else .ok l)
termination_by (k, rows.length)
decreasing_by
  all_goals first
    | exact Prod.Lex.right _ (by simp only [List.length_take, List.length_drop, List.length_cons]; omega)
    | exact Prod.Lex.left _ _ (by assumption)
def iY(bk:Bk)(L:List Row)(k:Nat)(n:ByteArray)(qs:List Int)(w:iE)(pl:Int)(l:OL):Except Int OL:=
 match uI bk.ds n with
 |none=>jX l (ko 1 n qs 0 w) pl
 |some i=>match bk.ds[i]? with
  |none=>.ok l
  |some d=>if d.ops=0 then .ok l else if i<k then bx bk L i (d.params.zip qs) w pl (xl L d) l else .ok l
theorem DV{bk:Bk}{L:List Row}{k:Nat}{env:List (ByteArray×Int)}{w:iE}{pl:Int}{l:OL}:bx bk L k env w pl [] l=.ok l:=by rw[bx]
theorem BR{bk:Bk}{L:List Row}{k:Nat}{env:List (ByteArray×Int)}{w:iE}{pl:Int}{r:Row}{rest:List Row}{l:OL}:bx bk L k env w pl (r::rest) l =
  mm (bx bk L k env w pl (rest.drop r.rows.toNat)) (if r.kind=aG then hG (bx bk L k env w pl (rest.take r.rows.toNat)) r.num.toNat l else iY bk L k r.name (r.args.map fun a=>s9 env a.name) w pl l):=by
 conv=>lhs;rw[bx]
 all_goals rfl
def iu(l:List fJ)(a:Arg):Int:=(match dC l a.name with |some g=>g.from_ |none=>0)+a.index
def nW(g:fJ):Int:=IntKind.u64.wrap (IntKind.u64.wrap (IntKind.u64.wrap (1*2^(min g.size.toNat 64))-1)*2^(min g.from_.toNat 64))
def valOf(g:fJ)(n:Int):Int:=IntKind.u64.wrap (IntKind.u64.wrap n*2^(min g.from_.toNat 64))
def lW(a b:Int):Int:=IntKind.u64.wrap (BitVec.ofInt IntKind.u64.bits a &&& BitVec.ofInt IntKind.u64.bits b).toNat
def CW(a b:Int):Int:=IntKind.u64.wrap (BitVec.ofInt IntKind.u64.bits a |||BitVec.ofInt IntKind.u64.bits b).toNat
def mJ(w:iE)(g:fJ)(n:Int):Option iE:=if lW w.value (nW g)≠lW (valOf g n) w.cR then none else some ⟨true,CW w.cR (nW g),CW w.value (valOf g n)⟩
def fY (bk : Bk) (L : List Row) (w : iE) (rows : List Row) (l : OL) : Except Int OL :=
  match rows with
  | [] => .ok l
  | r :: rest =>
    mm (fun l' => fY bk L w (rest.drop r.rows.toNat) l')
      (if r.kind = aG then hG (fun l' => fY bk L w (rest.take r.rows.toNat) l') r.num.toNat l
       else if r.kind = cz then (match dC bk.bs r.name with
        | none => .ok l
        | some g => match mJ w g r.num with
          | none => .ok l
          | some w' => fY bk L w' (rest.take r.rows.toNat) l)
       else if r.kind = bw then iY bk L bk.ds.length r.name (r.args.map (iu bk.qs)) w r.place l
       else if r.kind = aQ then (match r.args with
        | [a, b] => jX l (ko 2 ByteArray.empty [iu bk.qs a] (iu bk.bs b) w) r.place
        | _ => .ok l)
       else if r.kind = bB then jX l (ko 3 ByteArray.empty (r.args.map (iu bk.qs)) 0 w) r.place
       else .ok l)
termination_by rows.length
decreasing_by all_goals (simp only [List.length_take, List.length_drop, List.length_cons]; omega)
def qk (bk : Bk) (L : List Row) (w : iE) (r : Row) (body : List Row) (l : OL) : Except Int OL :=
  if r.kind = aG then hG (fY bk L w body) r.num.toNat l
  else if r.kind = cz then (match dC bk.bs r.name with
   | none => .ok l
   | some g => match mJ w g r.num with
     | none => .ok l
     | some w' => fY bk L w' body l)
  else if r.kind = bw then iY bk L bk.ds.length r.name (r.args.map (iu bk.qs)) w r.place l
  else if r.kind = aQ then (match r.args with
   | [a, b] => jX l (ko 2 ByteArray.empty [iu bk.qs a] (iu bk.bs b) w) r.place
   | _ => .ok l)
  else if r.kind = bB then jX l (ko 3 ByteArray.empty (r.args.map (iu bk.qs)) 0 w) r.place
  else .ok l
theorem qW{bk:Bk}{L:List Row}{w:iE}{l:OL}:fY bk L w [] l=.ok l:=by rw[fY]
theorem pt{bk:Bk}{L:List Row}{w:iE}{r:Row}{rest:List Row}{l:OL}:fY bk L w (r::rest) l=mm (fY bk L w (rest.drop r.rows.toNat)) (qk bk L w r (rest.take r.rows.toNat) l):=by
 conv=>lhs;rw[fY]
 all_goals rfl
structure Rc where
 q:Int
 b:Int
 ops:List bq
 at_:Int
 err:Int
def ef(L:List Row):Rc:=
 match dN 0 none 0 L ⟨[],[],[]⟩ with
 |.error (pl,e)=>⟨0,0,[],pl,e⟩
 |.ok bk=>match fY bk L ⟨false,0,0⟩ L [] with
  |.error pl=>⟨0,0,[],pl,115⟩
  |.ok l=>
   if (eR (aU bk.qs) (aU bk.bs) (l.map (·.1))).2≠0 then⟨0,0,[],(match l[(eR (aU bk.qs) (aU bk.bs) (l.map (·.1))).1.toNat]? with |some x=>x.2 |none=>0),(eR (aU bk.qs) (aU bk.bs) (l.map (·.1))).2⟩
   else⟨aU bk.qs,aU bk.bs,l.map (·.1),0,0⟩
theorem Jy{l:List dH}{n:ByteArray}(h:gE l n=none):uI l n=none:=by
 unfold uI
 rw[List.findIdx?_eq_none_iff]
 intro d hd
 have:=uH h d hd
 simpa using this
theorem ON{bk:Bk}(a:l6 bk){k:Nat}{d:dH}(h:bk.ds[k]?=some d):uI bk.ds d.name=some k:=by
 unfold uI
 rw[List.findIdx?_eq_some_iff_getElem]
 obtain⟨h1,h2⟩:=zM.1 h
 refine⟨h1,by rw[h2];simp,fun j hj=>?_⟩
 have hp:=List.pairwise_iff_getElem.1 a.nd j k (by simpa using Nat.lt_trans hj h1) (by simpa using h1) hj
 simp only[List.getElem_map]at hp
 rw[h2]at hp
 simpa using hp
end
section
open Go.Ab
attribute [-simp] aH az
def TQ(t:TypeId):Bool:=t==97||t==38||t==3
def Sep(x y:AV):Prop:=∀id off n B8 n',x=.sl id off n->y≠.sl id B8 n'
structure PX (n0:Nat) (h:AH) (p:Nat) (xr:AV) (bk:Bk) (ids:List Nat) (qm bm gm:Nat) (l:OL) (pl:Int) (xp xo:AV):Prop where
 n:n0<=p/\df (n0<=·) xp/\df (n0<=·) xo
 p:h.obj p=some (B9 xr qm bm gm xp (aU bk.qs) (aU bk.bs) xo pl)
 m:PM h bk ids qm bm gm
 x:bC dx 1 3 h xp (l.map (·.2))
 o:∃yl:List (bq×AV),bC cK 7 38 h xo yl/\yl.map (·.1)=l.map (·.1)/\∀y∈yl,cb dx 1 3 h y.2 y.1.aD/\Sep xp y.2
 len:l.length<=4096
theorem PM.vQ{n0:Nat}{h h':AH}{bk:Bk}{ids:List Nat}{qm bm gm:Nat}(a:PM h bk ids qm bm gm)(hf:Fr h h' (TW TQ n0 h)):PM h' bk ids qm bm gm:=
 ⟨TW.obj hf a.q rfl,TW.obj hf a.b rfl,TW.obj hf a.g rfl,a.len,fun k d id h1 h2=>(a.d k d id h1 h2).fr hf fun i o ho ht=>TW.no ho fun _=>by rcases ht with e |e<;>rw[e]<;>rfl,a.nd,a.qb⟩
theorem RT.vQ{h h':AH}{xr:AV}{rs:List (Row×AV)}{n0:Nat}(a:RT h xr rs)(f:Fr h h' (TW TQ n0 h)):RT h' xr rs:=⟨a.r.wX f rfl,fun y hy=>⟨(a.a y hy).1.wX f rfl,(a.a y hy).2⟩,a.n⟩
theorem PX.be{n0:Nat}{h h':AH}{p:Nat}{xr:AV}{bk:Bk}{ids:List Nat}{qm bm gm:Nat}{l:OL}{pl:Int}{xp xo:AV}(a:PX n0 h p xr bk ids qm bm gm l pl xp xo)(f:Fr h h' fun _=>False):PX n0 h' p xr bk ids qm bm gm l pl xp xo:=by
 obtain⟨yl,o1,o2,o3⟩:=a.o
 exact⟨a.n,f.bI a.p,a.m.be f,a.x.bp f fun _ _ h=>h,⟨yl,o1.bp f fun _ _ h=>h,o2,fun y hy=>⟨(o3 y hy).1.be f,(o3 y hy).2⟩⟩,a.len⟩
theorem PX.rk{n0:Nat}{h:AH}{p:Nat}{xr:AV}{bk:Bk}{ids:List Nat}{qm bm gm:Nat}{l:OL}{pl:Int}{xp xo:AV}(a:PX n0 h p xr bk ids qm bm gm l pl xp xo):Cz h p pl:=⟨_,a.p,rfl⟩
theorem df.lift{α:Type}{f:α->List AV}{sz:Nat}{ty:TypeId}{h:AH}{x:AV}{l:List α}(a:bC f sz ty h x l){W:Nat->Prop}(hw:∀id,h.obj id≠none->W id):df W x:=by
 intro id off n e
 rcases a with⟨rfl,_⟩ |⟨i,rfl,ho⟩
 ·cases e
 ·cases e
  exact hw _ (by rw[ho];simp)
theorem pF{α:Type}{f:α->List AV}{sz:Nat}{ty:TypeId}{h:AH}{x:AV}{l:List α}(a:bC f sz ty h x l){i:Nat}{o:AO}(ho:h.obj i=some o)(ht:o.ty≠ty):¬ ∃off n,x=.sl i off n:=by
 rintro⟨off,n,e⟩
 rcases a with⟨rfl,_⟩ |⟨j,rfl,hj⟩
 ·cases e
 ·cases e
  rw[ho]at hj;cases hj
  exact ht rfl
theorem Rz{α:Type}{f:α->List AV}{sz:Nat}{ty:TypeId}{h:AH}{x z:AV}{l:List α}(a:df (h.next<=·) x)(b:cb f sz ty h z l):Sep x z:=by
 intro id off n B8 n' e1 e2
 have h1:=a _ _ _ e1
 subst e2
 rcases b with⟨e,_⟩ |⟨_,_,e,_⟩ |⟨j,rest,ro,mv,e,_,hj⟩
 ·cases e
 ·cases e
 ·cases e
  have:=h.lt _ _ hj
  omega
theorem aay{α:Type}{f:α->List AV}{sz:Nat}{ty:TypeId}{h h':AH}{x z:AV}{l:List α}(b:cb f sz ty h z l)(hf:Fr h h' fun i=>∃off n,x=.sl i off n)(hs:Sep x z):cb f sz ty h' z l:=by
 rcases b with e |e |⟨j,rest,ro,mv,rfl,ht,hj⟩
 ·exact .inl e
 ·exact .inr (.inl e)
 ·exact .inr (.inr ⟨j,rest,ro,mv,rfl,ht,hf.obj hj fun⟨off,n,e⟩=>hs _ _ _ _ _ e rfl⟩)
def PE(n0:Nat)(xr:AV)(bk:Bk)(ids:List Nat)(qm bm gm:Nat)(h:AH)(p:Nat)(e:Int):Prop:=∃l xp xo,PX n0 h p xr bk ids qm bm gm l e xp xo
theorem PX.aaB{n0:Nat}{h:AH}{p:Nat}{xr:AV}{bk:Bk}{ids:List Nat}{qm bm gm:Nat}{l:OL}{pl:Int}{xp xo:AV}(px:PX n0 h p xr bk ids qm bm gm l pl xp xo){e:Int}:PX n0 (h.put p 8 [I e]) p xr bk ids qm bm gm l e xp xo/\Fr h (h.put p 8 [I e]) (TW TQ n0 h):=by
 have f:Fr h (h.put p 8 [I e]) (·=p):=Fr.refl.put (.inl rfl)
 have o:=gW (off:=8) (cs:=[I e]) px.p
 generalize h.put p 8 [I e]=h1 at *
 have g:Fr h h1 (TW TQ n0 h):=TW.mO f px.n.1 px.p rfl rfl
 obtain⟨yl,o1,o2,o3⟩:=px.o
 refine⟨⟨px.n,o,px.m.vQ g,px.x.bp f fun id e he=>?_,⟨yl,o1.bp f fun id e he=>?_,o2,fun y hy=>⟨(o3 y hy).1.fr f fun id o ho ht e=>?_,(o3 y hy).2⟩⟩,px.len⟩,g⟩
 ·subst he;exact pF px.x px.p (show(97:Nat)≠3 by decide) ⟨_,_,e⟩
 ·subst he;exact pF o1 px.p (show(97:Nat)≠38 by decide) ⟨_,_,e⟩
 ·subst e
  have hp:=px.p
  rw[ho]at hp;cases hp
  exact absurd (ht rfl) (show(97:Nat)≠3 by decide)
section
variable {h:AH} {M:Nat->Prop} {R:AE->AH->Prop} {n0 p:Nat} {xr xp xo xq:AV} {bk:Bk} {ids:List Nat} {qm bm gm:Nat} {l:OL} {pl place:Int} {k b:Int} {n:ByteArray} {qs:List Int} {w:iE}
abbrev qp(w:iE):List AV:=[B w.is,U w.cR,U w.value]
theorem ET(px:PX n0 h p xr bk ids qm bm gm l pl xp xo)(hq:cb dx 1 3 h xq qs)(sep:Sep xp xq)(hM:∀id,TW TQ n0 h id->M id)
  (he:∀h',jX l (ko k n qs b w) place=.error place->PE n0 xr bk ids qm bm gm h' p place->Fr h h' (TW TQ n0 h)->R (.ret (B false)) h')
  (hk:∀l' gL jz jA h',jX l (ko k n qs b w) place=.ok l'->PX n0 h' p xr bk ids qm bm gm l' gL jz jA->Fr h h' (TW TQ n0 h)->R (.ret (B true)) h') :
  aB Pg 71 [.ptr p 0,.agg [I k,Sb n,xq,I b,B false,U 0,U 0],.agg (qp w),I place] h M R:=by
 apply vS.aO
 unfold vS.n9
 refine dF (by show(true&&(true&&(cF xq&&true)))=true;rw[hq.one.1];rfl) fun vo h1 f1 Qk oo=>?_
 refine dF rfl fun vw h2 f2 U3 ow=>?_
 have bY:=f1.bQ f2
 have YP:=f2.bI oo
 have fH:=px.be bY
 have Zi:=hq.be bY
 have b7:vo≠vw:=fun e=>by
  have:=h1.lt _ _ oo
  omega
 have ZJ:∀{h3:AH},Fr h h3 (TW TQ n0 h)->∀id,TW TQ n0 h3 id->(M id\/h.next<=id):=fun f id hid=>(TW.back f hid).elim (fun h=>.inl (hM id h)) .inr
 have mp:∀{h3:AH},(M p\/h3.next<=p):=.inl (hM p ⟨px.n.1,_,px.p,rfl,rfl⟩)
 unfold jX at he hk
 simp only[vS.n8,aL,aj,aF,fH.p,aA,zG,Nat.reduceAdd,zA,zB,ab]
 obtain⟨yl,o1,o2,o3⟩:=fH.o
 have HL:yl.length=l.length:=by have:=congrArg List.length o2;simpa using this
 simp only[o1.gy.len.1,o1.gy.len.2,zH,eO,HL]
 by_cases k1:l.length=4096
 ·rw[zX k1]at he
  have iw:((l.length:Int)==4096)=true:=by rw[k1];rfl
  simp only[iw,vS.n7,ap,zD,zF,zC,zI,vS.n6,aL,aj,az,fH.p,eY,cn]
  refine⟨⟨mp (h3:=h),rfl,rfl,by simp⟩,?_⟩
  obtain⟨we,f3⟩:=fH.aaB (e:=place)
  generalize h2.put p 8 [I place]=h3 at *
  simpa[vS.n5] using he h3 rfl ⟨l,xp,xo,we⟩ (TW.trans (TW.bp bY) f3)
 ·rw[zW k1]at hk
  have iw:((l.length:Int)==4096)=false:=by
   have:¬(l.length:Int)=4096:=by omega
   simpa using this
  simp only[iw,vS.n7,ap,zE,zD,zC,zH,vS.n4]
  refine⟨fun _=>vw,fun _ _=>by rw[ow];simp,?_⟩
  simp only[aj,aF,ow,aA,zG,zA,zB,ab,zH,az,YP,uO,cn]
  have wo:∀{i:Nat},i=vo->(M i\/h.next<=i):=fun e=>by subst e;exact .inr Qk
  refine⟨⟨⟨wo rfl,fun _ _=>b7⟩,rfl,rfl,by simp⟩,?_⟩
  have f3:Fr h (h2.put vo 4 [B w.is]) fun _=>False:=bY.put (.inr Qk)
  have YO:=gW (off:=4) (cs:=[B w.is]) YP
  generalize h2.put vo 4 [B w.is]=h3 at *
  simp only[YO,eY,cn]
  refine⟨⟨⟨wo rfl,fun _ _=>b7⟩,rfl,rfl,by simp⟩,?_⟩
  have f4:Fr h (h3.put vo 5 [U w.cR]) fun _=>False:=f3.put (.inr Qk)
  have YN:=gW (off:=5) (cs:=[U w.cR]) YO
  generalize h3.put vo 5 [U w.cR]=h4 at *
  simp only[YN,eY,cn]
  refine⟨⟨wo rfl,rfl,rfl,by simp⟩,?_⟩
  have f5:Fr h (h4.put vo 6 [U w.value]) fun _=>False:=f4.put (.inr Qk)
  have oo5:=gW (off:=6) (cs:=[U w.value]) YN
  generalize h4.put vo 6 [U w.value]=h5 at *
  have rZ:=px.be f5
  have hq5:=hq.be f5
  obtain⟨yl,o1,o2,o3⟩:=rZ.o
  have acH:yl.length=l.length:=by have:=congrArg List.length o2;simpa using this
  have acE:=px.len
  simp only[vS.n3,aL,aj,aF,rZ.p,aA,zG,Nat.reduceAdd,zA,zB,ab]
  refine dX oo5 rfl fun _=>?_
  refine Gy (f:=cK) (t:=(ko k n qs b w,xq)) fg (by omega) rfl (by omega) rfl (lS hq.one.1) o1 ?_ (by omega) fun y h6 hy UT f6=>?_
  ·intro id off n e
   rcases o1 with⟨e1,_⟩ |⟨j,e1,ho⟩
   ·rw[e1]at e;cases e
   ·rw[e1]at e;cases e
    exact(ZJ (TW.bp f5) _ ⟨px.n.2.2 _ _ _ e1,_,ho,rfl,rfl⟩)
  ·have oy:[y].all cF=true:=by show(cF y&&true)=true;rw[hy.gy.one.1];rfl
   have np:¬ ∃off n,xo=.sl p off n:=pF o1 rZ.p (show(97:Nat)≠38 by decide)
   have p6:=f6.obj rZ.p np
   have g6:Fr h h6 (TW TQ n0 h):=by
    refine TW.trans (TW.bp f5) (f6.mono fun i ⟨off,n,e⟩=>?_)
    rcases o1 with⟨e1,_⟩ |⟨j,e1,ho⟩
    ·rw[e1]at e;cases e
    ·rw[e1]at e;cases e
     exact⟨px.n.2.2 _ _ _ e1,_,ho,rfl,rfl⟩
   have x6:bC dx 1 3 h6 xp (l.map (·.2)):=rZ.x.bp f6 fun id e=>by
    rcases rZ.x with⟨e1,_⟩ |⟨j,e1,ho⟩
    ·rw[e1]at e;cases e
    ·rw[e1]at e;cases e
     exact pF o1 ho (show(3:Nat)≠38 by decide)
   have q6:∀{z:AV}{zl:List Int},cb dx 1 3 h5 z zl->cb dx 1 3 h6 z zl:=fun hz=>hz.fr f6 fun id o ho ht ⟨off,n,e⟩=>by
    rcases o1 with⟨e1,_⟩ |⟨j,e1,hj⟩
    ·rw[e1]at e;cases e
    ·rw[e1]at e;cases e
     rw[hj]at ho;cases ho
     exact absurd (ht rfl) (show(38:Nat)≠3 by decide)
   simp only[aL,aj,az,p6,hy.gy.one.2,cn,zG,Nat.reduceAdd]
   refine⟨⟨mp (h3:=h),oy,rfl,by simp⟩,?_⟩
   have f7:Fr h6 (h6.put p 7 [y]) (·=p):=Fr.refl.put (.inl rfl)
   have p7:=gW (off:=7) (cs:=[y]) p6
   generalize h6.put p 7 [y]=h7 at *
   have g7:=TW.trans g6 (TW.mO (T:=TQ) f7 px.n.1 p6 rfl rfl)
   have x7:bC dx 1 3 h7 xp (l.map (·.2)):=x6.bp f7 fun id e he=>by
    subst he
    exact pF x6 p6 (show(97:Nat)≠3 by decide) ⟨_,_,e⟩
   have y7:bC cK 7 38 h7 y (yl++[(ko k n qs b w,xq)]):=hy.bp f7 fun id e he=>by
    subst he
    exact pF hy p6 (show(97:Nat)≠38 by decide) ⟨_,_,e⟩
   have q7:∀{z:AV}{zl:List Int},cb dx 1 3 h6 z zl->cb dx 1 3 h7 z zl:=fun hz=>hz.fr f7 fun id o ho ht e=>by
    subst e
    rw[p6]at ho;cases ho
    exact absurd (ht rfl) (show(97:Nat)≠3 by decide)
   simp only[vS.n2,aL,aj,aF,p7,putCells,List.set_cons_zero,List.set_cons_succ,aA,zG,Nat.reduceAdd,zA,zB,ab]
   refine Gy (f:=dx) (t:=place) iR (by omega) rfl (by omega) rfl rfl x7 ?_ (by have:=px.len;simp only[zZ];omega) fun z h8 hz HK f8=>?_
   ·intro id off n e
    rcases x7 with⟨e1,_⟩ |⟨j,e1,ho⟩
    ·rw[e1]at e;cases e
    ·rw[e1]at e;cases e
     exact(ZJ g7 _ ⟨px.n.2.1 _ _ _ e1,_,ho,rfl,rfl⟩)
   ·have oz:[z].all cF=true:=by show(cF z&&true)=true;rw[hz.gy.one.1];rfl
    have np8:¬ ∃off n,xp=.sl p off n:=pF x7 p7 (show(97:Nat)≠3 by decide)
    have p8:=f8.obj p7 np8
    have g8:Fr h h8 (TW TQ n0 h):=by
     refine TW.trans g7 (f8.mono fun i ⟨off,n,e⟩=>?_)
     rcases x7 with⟨e1,_⟩ |⟨j,e1,ho⟩
     ·rw[e1]at e;cases e
     ·rw[e1]at e;cases e
      exact⟨px.n.2.1 _ _ _ e1,_,ho,rfl,rfl⟩
    have y8:bC cK 7 38 h8 y (yl++[(ko k n qs b w,xq)]):=y7.bp f8 fun id e=>by
     rcases y7 with⟨e1,_⟩ |⟨j,e1,ho⟩
     ·rw[e1]at e;cases e
     ·rw[e1]at e;cases e
      exact pF x7 ho (show(38:Nat)≠3 by decide)
    simp only[aL,aj,az,p8,hz.gy.one.2,cn,zG,Nat.reduceAdd]
    refine⟨⟨mp (h3:=h),oz,rfl,by simp⟩,?_⟩
    have f9:Fr h8 (h8.put p 4 [z]) (·=p):=Fr.refl.put (.inl rfl)
    have p9:=gW (off:=4) (cs:=[z]) p8
    generalize h8.put p 4 [z]=h9 at *
    have g9:=TW.trans g8 (TW.mO (T:=TQ) f9 px.n.1 p8 rfl rfl)
    have z9:bC dx 1 3 h9 z (l.map (·.2)++[place]):=hz.bp f9 fun id e he=>by
     subst he
     exact pF hz p8 (show(97:Nat)≠3 by decide) ⟨_,_,e⟩
    have y9:bC cK 7 38 h9 y (yl++[(ko k n qs b w,xq)]):=y8.bp f9 fun id e he=>by
     subst he
     exact pF y8 p8 (show(97:Nat)≠38 by decide) ⟨_,_,e⟩
    have q9:∀{z:AV}{zl:List Int},cb dx 1 3 h8 z zl->cb dx 1 3 h9 z zl:=fun hz=>hz.fr f9 fun id o ho ht e=>by
     subst e
     rw[p8]at ho;cases ho
     exact absurd (ht rfl) (show(97:Nat)≠3 by decide)
    have TS:∀{v:AV}{zl:List Int},cb dx 1 3 h5 v zl->Sep xp v->cb dx 1 3 h9 v zl/\Sep z v:=fun{v zl} hv hs=>by
     have ZQ:cb dx 1 3 h7 v zl:=q7 (q6 hv)
     exact⟨q9 (aay ZQ f8 hs),Rz HK ZQ⟩
    have lt:∀{a b:AH}{S:Nat->Prop},Fr a b S->∀{x:AV},df (b.next<=·) x->df (a.next<=·) x:=fun f x hx id off n e=>zR f.next (hx _ _ _ e)
    simp only[vS.n1]
    have fin:=hk (l++[(ko k n qs b w,place)]) pl z y h9 rfl ⟨⟨px.n.1,fun id off n e=>?_,fun id off n e=>?_⟩,?_,px.m.vQ g9,by simpa using z9,⟨_,y9,by simp[o2],fun v hv=>?_⟩,by simp only[List.length_append,List.length_singleton];have:=px.len;omega⟩ g9
    ·simpa using fin
    ·have h1:=lt g7 HK _ _ _ e
     have h2:=h.lt _ _ px.p
     have h3:=px.n.1
     omega
    ·have h1:=lt (TW.bp (T:=TQ) (n0:=n0) f5) UT _ _ _ e
     have h2:=h.lt _ _ px.p
     have h3:=px.n.1
     omega
    ·simpa[putCells] using p9
    ·rcases List.mem_append.1 hv with hv |hv
     ·exact TS (o3 v hv).1 (o3 v hv).2
     ·have:=List.mem_singleton.1 hv
      subst this
      exact TS hq5 sep
end
end
section
open Go.Ab
attribute [-simp] aH az
theorem Q6{l:List fJ}{a:Arg}(h:ij l a=0):∃g,dC l a.name=some g/\0<=a.index/\a.index<g.size:=by
 unfold ij at h
 split at h
 ·cases h
 ·rename_i g hg
  split at h
  ·cases h
  ·exact⟨g,hg,by omega,by omega⟩
section
variable {h:AH} {M:Nat->Prop} {R:AE->AH->Prop} {p:Nat} {x1:AV} {bk:Bk} {ids:List Nat} {qm bm gm:Nat} {cs:List AV} {args:List Arg}
theorem IZ(hp:h.obj p=some (aI cs 9 97))(c1:cs[1]?=some (.mp qm))(pm:PM h bk ids qm bm gm)(ok:CB bk)(ha:cb Arg.enc 2 67 h x1 args)(hl:args.length<=100000000)(Bt:∀a∈args,ij bk.qs a=0)
  (hR:∀y h',bC dx 1 3 h' y (args.map (iu bk.qs))->df (h.next<=·) y->Fr h h' (fun _=>False)->R (.ret y) h'):aB Pg 70 [.ptr p 0,x1] h M R:=by
 apply sR.aO
 unfold sR.aZ sR.n9 sR.n8
 refine⟨ha.len.1,?_⟩
 rw[ha.len.2]
 unfold sR.n7
 refine cJ (ι:=Nat×AV) (fun i v h'=>v=[.ptr p 0,i.2,x1,I args.length,I i.1]/\i.1<=args.length/\Fr h h' (fun _=>False)/\bC dx 1 3 h' i.2 ((args.take i.1).map (iu bk.qs))/\df (h.next<=·) i.2) (fun i=>args.length-i.1) (0,aV) ⟨rfl,by omega,Fr.refl,by simpa using bC.nil,fun _ _ _ e=>by cases e⟩ ?_
 rintro K ⟨i,x5⟩ v h1 ⟨rfl,hi,f1,hx,hs⟩ step
 simp only at hi hx hs step
 simp only[sR.cT,zN,zO,sR.n6,bu]
 by_cases aJ:i<args.length
 ·have dZ:(i:Int)<args.length:=by omega
  have g1:args[i]?=some args[i]:=zJ aJ
  have nk:=List.getElem_mem aJ
  have iz:args.take (i+1)=args.take i++[args[i]]:=by rw[List.take_add_one,g1];rfl
  generalize args[i]=a at *
  obtain⟨g,hg,i0,i1⟩:=Q6 (Bt a nk)
  have hgs:=ok.sq g (List.mem_of_find?_eq_some hg)
  have ht:=ok.tq
  simp only[zL dZ,sR.n5,ap,zD,zF,zC,zI,sR.n4]
  refine iK (ha.be f1) Arg.b8 (Arg.h_ a) g1 rfl rfl (fun id hid=>.inr (zR f1.next hid)) fun vn h2 f2 rA ov=>?_
  have bY:=f1.bQ f2
  simp only[sR.n3,aL,aj,aF,bY.bI hp,ov,aA,zG,c1,Arg.enc,zA,zB,ab]
  refine gY (enc:=Sb) jr z93 (pm.be bY).q fun _=>?_
  rw[kS,hg]
  have w1:IntKind.i64.wrap (g.from_+a.index)=iu bk.qs a:=by
   unfold iu
   rw[hg]
   exact aX (by omega) (by omega)
  have w2:IntKind.i64.wrap ((i:Int)+1)=((i+1:Nat):Int):=by rw[aX (by omega) (by omega)];simp
  simp only[yB,fL,zE,if_false,uE,lL,List.take,List.drop,zA,aj,aF,ov,aA,zG,zB,ab,bg,w1]
  refine⟨_,rfl,?_⟩
  simp only[bg,w1]
  refine Gy (f:=dx) (t:=iu bk.qs a) iR (by omega) rfl (by omega) rfl rfl (hx.bp f2 fun _ _ h=>h) (fun id off n e=>.inr (hs id off n e)) (by rw[zZ,yA];omega) fun y h3 hy UT f3=>?_
  have fD:Fr h h3 fun _=>False:=bY.trans (f3.mono fun j ⟨off,n,e⟩=>.inr (hs j off n e))
  simp only[sR.n2,bg,w2]
  refine step (i+1,y) _ h3 (by simp only;omega) ⟨rfl,by simp only;omega,fD,?_,fun id off n e=>zR bY.next (UT id off n e)⟩
  rw[iz,List.map_append]
  exact hy
 ·have eG:¬(i:Int)<args.length:=by omega
  have e:i=args.length:=by omega
  subst e
  rw[List.take_length]at hx
  simpa[eG,sR.n5,sR.n1] using hR x5 h1 hx hs f1
end
end
section
open Go.Ab
attribute [-simp] aH az
abbrev z_(env:List (ByteArray×Int)):AO:=lc Sb 157 (env.map fun x=>(x.1,I x.2))
theorem Ou{n:ByteArray}{env:List (ByteArray×Int)}:(match ee n (env.map fun x=>(x.1,I x.2)) with |some v=>v |none=>I 0)=I (s9 env n):=by
 rw[Ak (f:=fun x:ByteArray×Int=>x.1) (g:=fun x=>I x.2)]
 unfold s9
 cases env.find? fun x=>decide (x.1=n)<;>rfl
structure SC (bk:Bk) (rs:List (Row×AV)):Prop where
 bf:oS bk
 dk:∀k,JW bk (rs.map (·.1)) k
 nm:∀y∈rs,y.1.num<=9223372036854775807
def JX(n0 p:Nat)(xr:AV)(bk:Bk)(ids:List Nat)(qm bm gm:Nat)(rs:List (Row×AV))(k n:Nat):Prop:=
 ∀(h:AH)(M:Nat->Prop)(R:AE->AH->Prop)(a:Nat)(env:List (ByteArray×Int))(mb:Nat)(w:iE)(pl place:Int)(xp xo:AV)(l:OL)(ps:List ByteArray),PX n0 h p xr bk ids qm bm gm l pl xp xo->RT h xr rs->a+n<=rs.length ->
  h.obj mb=some (z_ env)->GB bk k ps (sg rs a n)->(∀id,TW TQ n0 h id->M id) ->
  (∀e h',bx bk (rs.map (·.1)) k env w place (sg rs a n) l=.error e->PE n0 xr bk ids qm bm gm h' p e->Fr h h' (TW TQ n0 h)->R (.ret (B false)) h') ->
  (∀l' gL jz jA h',bx bk (rs.map (·.1)) k env w place (sg rs a n) l=.ok l'->PX n0 h' p xr bk ids qm bm gm l' gL jz jA->Fr h h' (TW TQ n0 h)->R (.ret (B true)) h') ->
  aB Pg 94 [.ptr p 0,I a,I (a+n),.mp mb,.agg (qp w),I place] h M R
def Ye(bk:Bk)(k:Nat)(nm:ByteArray)(n:Nat):Prop:=gE bk.ds nm=none\/∃j d,j<k/\bk.ds[j]?=some d/\d.name=nm/\n=d.params.length
def BW(n0 p:Nat)(xr:AV)(bk:Bk)(ids:List Nat)(qm bm gm:Nat)(rs:List (Row×AV))(k:Nat):Prop:=
 ∀(h:AH)(M:Nat->Prop)(R:AE->AH->Prop)(nm:ByteArray)(qs:List Int)(xq:AV)(w:iE)(pl place:Int)(xp xo:AV)(l:OL),PX n0 h p xr bk ids qm bm gm l pl xp xo->RT h xr rs ->
  cb dx 1 3 h xq qs->Sep xp xq->Ye bk k nm qs.length->(∀id,TW TQ n0 h id->M id) ->
  (∀e h',iY bk (rs.map (·.1)) k nm qs w place l=.error e->PE n0 xr bk ids qm bm gm h' p e->Fr h h' (TW TQ n0 h)->R (.ret (B false)) h') ->
  (∀l' gL jz jA h',iY bk (rs.map (·.1)) k nm qs w place l=.ok l'->PX n0 h' p xr bk ids qm bm gm l' gL jz jA->Fr h h' (TW TQ n0 h)->R (.ret (B true)) h') ->
  aB Pg 69 [.ptr p 0,Sb nm,xq,.agg (qp w),I place] h M R
theorem PX.pU{n0:Nat}{h:AH}{p:Nat}{xr:AV}{bk:Bk}{ids:List Nat}{qm bm gm:Nat}{l:OL}{pl:Int}{xp xo:AV}(a:PX n0 h p xr bk ids qm bm gm l pl xp xo):a_ xo=false/\∀K:AV->Prop,bO xo K=K (I l.length):=by
 obtain⟨yl,o1,o2,_⟩:=a.o
 have HL:yl.length=l.length:=by have:=congrArg List.length o2;simpa using this
 rw[<-HL]
 exact o1.gy.len
section
variable {W:Nat->Prop} {QR QN:VK} {QE:Nat->VK} {QP:AV->AH->Prop} {h:AH} {n0 p vw vr mb:Nat} {xr xp xo x2:AV} {bk:Bk} {ids:List Nat} {qm bm gm:Nat} {l:OL} {pl place:Int} {rs:List (Row×AV)} {w:iE} {y:Row×AV} {k j kk:Nat} {env:List (ByteArray×Int)} {ps:List ByteArray}
theorem SY(hB:JX n0 p xr bk ids qm bm gm rs k kk)(px:PX n0 h p xr bk ids qm bm gm l pl xp xo)(rt:RT h xr rs)(hj:j+1+kk<=rs.length)(om:h.obj mb=some (z_ env))(ow:h.obj vw=some (aI (qp w) 3 100))(cW:h.obj vr=some (aI (ay y) 6 46))(Lv:y.1.rows=kk)
  (hg:GB bk k ps (sg rs (j+1) kk)) (hW:∀id,TW TQ n0 h id\/h.next<=id->W id)
  (he:∀e h',hG (bx bk (rs.map (·.1)) k env w place (sg rs (j+1) kk)) y.1.num.toNat l=.error e->PE n0 xr bk ids qm bm gm h' p e->Fr h h' (TW TQ n0 h)->QR [B false] h')
  (hk:∀l' gL jz jA h',hG (bx bk (rs.map (·.1)) k env w place (sg rs (j+1) kk)) y.1.num.toNat l=.ok l'->PX n0 h' p xr bk ids qm bm gm l' gL jz jA->Fr h h' (TW TQ n0 h)->eC.n2 W QR QN QE QP (.ptr p 0) x2 (.mp mb) (I place) (.ptr vw 0) (I j) h') (qo:y.1.num<=9223372036854775807) :
  eC.cG W QR QN QE QP (.ptr p 0) x2 (.mp mb) (I place) (.ptr vw 0) (I j) (.ptr vr 0) h:=by
 unfold eC.cG eC.cN
 have hlen:=rt.n
 refine cJ (ι:=Nat×OL×Int×AV×AV) (fun i v h'=>v=[.ptr p 0,x2,.mp mb,I place,.ptr vw 0,I j,.ptr vr 0,I (y.1.num.toNat-i.1:Nat)]/\i.1<=y.1.num.toNat/\PX n0 h' p xr bk ids qm bm gm i.2.1 i.2.2.1 i.2.2.2.1 i.2.2.2.2/\hG (bx bk (rs.map (·.1)) k env w place (sg rs (j+1) kk)) i.1 i.2.1=hG (bx bk (rs.map (·.1)) k env w place (sg rs (j+1) kk)) y.1.num.toNat l/\Fr h h' (TW TQ n0 h)) (fun i=>i.1) (y.1.num.toNat,l,pl,xp,xo) ⟨by simp,zU _,px,rfl,TW.bp Fr.refl⟩ ?_
 rintro K ⟨c,l1,A3,Ay,u_⟩ v h1 ⟨rfl,hc,lK,cm,f1⟩ step
 simp only at hc lK cm step
 have vj:h1.obj vr=some (aI (ay y) 6 46):=TW.obj f1 cW rfl
 have Hy:h1.obj vw=some (aI (qp w) 3 100):=TW.obj f1 ow rfl
 have om1:h1.obj mb=some (z_ env):=TW.obj f1 om rfl
 simp only[eC.FX,zN,zO,eC.cL,aj,aF,vj,aA,zG,ay,zA,zB,ab,bu]
 cases c with
 |zero=>
  have e1:decide (((y.1.num.toNat-0:Nat):Int)<y.1.num)=false:=by simp;omega
  simp only[hG]at cm
  simp only[e1,eC.cq,ap,zE,zD,zC,zH,zV,if_false,eC.bF,zN,zO]
  exact hk l1 A3 Ay u_ h1 cm.symm lK f1
 |succ c=>
  have e1:decide (((y.1.num.toNat-(c+1):Nat):Int)<y.1.num)=true:=by simp;omega
  have w1:∀x:Int,0<=x/\x<=1000000000->IntKind.i64.wrap x=x:=fun x hx=>aX (by omega) (by omega)
  simp only[hG]at cm
  simp only[e1,eC.cq,ap,zD,zF,zC,zI,eC.cl,aL,aj,aF,lK.p,aA,zG,Nat.reduceAdd,zA,zB,ab,lK.pU.1,lK.pU.2,zH,eC.bX,vj,ay,Lv,bg,w1 ((j:Int)+1) (by omega),w1 ((j:Int)+1+kk) (by omega)]
  refine dX Hy rfl fun _=>?_
  refine⟨TW TQ n0 h1,fun id hs _=>hW id (TW.back f1 hs),hB h1 _ _ (j+1) env mb w A3 place Ay u_ l1 ps lK (rt.vQ f1) hj om1 hg (fun _ h=>h) ?_ ?_⟩
  ·intro e h2 hb hp f2
   rw[hb]at cm
   simp only[d_,zT,eC.bT,ap,zD,zF,zC,zI,eC.bW]
   exact he e h2 cm.symm hp (TW.trans f1 f2)
  ·intro l2 mM qt nM h2 hb fH f2
   rw[hb]at cm
   simp only at cm
   have bY:=TW.trans f1 f2
   simp only[d_,zS,eC.bT,ap,zE,zD,zC,zH,eC.bN,aL,aj,aF,fH.p,aA,zG,Nat.reduceAdd,zA,zB,ab,fH.pU.1,fH.pU.2,eO]
   by_cases k1:l2.length=l1.length
   ·rw[zX k1]at cm
    have iw:((l2.length:Int)==(l1.length:Int))=true:=by rw[k1];simp
    simp only[iw,eC.bP,ap,zD,zF,zC,zI,zV,eC.bF,zN,zO]
    exact hk l2 mM qt nM h2 cm.symm fH bY
   ·rw[zW k1]at cm
    have iw:((l2.length:Int)==(l1.length:Int))=false:=by simp;omega
    have w3:IntKind.i64.wrap (((y.1.num.toNat-(c+1):Nat):Int)+1)=((y.1.num.toNat-c:Nat):Int):=by rw[aX (by omega) (by omega)];omega
    simp only[iw,eC.bP,ap,zE,zD,zC,zH,eC.bM,bg,w3]
    exact step (c,l2,mM,qt,nM) _ h2 (by simp only;omega) ⟨rfl,by simp only;omega,fH,cm,bY⟩
theorem NI{n:ByteArray}:fL false (I 0) (ee n (env.map fun x=>(x.1,I x.2)))=I (s9 env n):=by
 rw[<-Ou]
 cases ee n (env.map fun x=>(x.1,I x.2))<;>rfl
theorem Hp{α:Type}{f:α->List AV}{sz:Nat}{ty:TypeId}{h:AH}{x z:AV}{l:List α}(a:bC f sz ty h x l)(b:df (h.next<=·) z):Sep x z:=by
 intro id off n B8 n' e1 e2
 have h1:=b _ _ _ e2
 rcases a with⟨e,_⟩ |⟨j,e,hj⟩
 ·rw[e1]at e;cases e
 ·rw[e1]at e;cases e
  have:=h.lt _ _ hj
  omega
theorem SX(hA:BW n0 p xr bk ids qm bm gm rs k)(px:PX n0 h p xr bk ids qm bm gm l pl xp xo)(rt:RT h xr rs)(hy:rs[j]?=some y)(om:h.obj mb=some (z_ env))(ow:h.obj vw=some (aI (qp w) 3 100))(cW:h.obj vr=some (aI (ay y) 6 46))
  (hu:At bk k y.1) (hW:∀id,TW TQ n0 h id\/h.next<=id->W id)
  (he:∀e h',iY bk (rs.map (·.1)) k y.1.name (y.1.args.map fun a=>s9 env a.name) w place l=.error e->PE n0 xr bk ids qm bm gm h' p e->Fr h h' (TW TQ n0 h)->QR [B false] h')
  (hk:∀l' gL jz jA h',iY bk (rs.map (·.1)) k y.1.name (y.1.args.map fun a=>s9 env a.name) w place l=.ok l'->PX n0 h' p xr bk ids qm bm gm l' gL jz jA->Fr h h' (TW TQ n0 h)->eC.n2 W QR QN QE QP (.ptr p 0) x2 (.mp mb) (I place) (.ptr vw 0) (I j) h') :
  eC.br W QR QN QE QP (.ptr p 0) x2 (.mp mb) (I place) (.ptr vw 0) (I j) (.ptr vr 0) h:=by
 obtain⟨ha,hl⟩:=rt.a y (zP hy)
 simp only[eC.br,eC.ba,aj,aF,cW,aA,zG,ay,zA,zB,ab,ha.len.1,ha.len.2,zH]
 unfold eC.bc
 refine cJ (ι:=Nat×AV) (fun i v h'=>v=[.ptr p 0,x2,.mp mb,I place,.ptr vw 0,I j,.ptr vr 0,i.2,y.2,I y.1.args.length,I i.1]/\i.1<=y.1.args.length/\Fr h h' (fun _=>False)/\bC dx 1 3 h' i.2 ((y.1.args.take i.1).map fun a=>s9 env a.name)/\df (h.next<=·) i.2) (fun i=>y.1.args.length-i.1) (0,aV) ⟨rfl,by omega,Fr.refl,by simpa using bC.nil,fun _ _ _ e=>by cases e⟩ ?_
 rintro K ⟨i,x5⟩ v h1 ⟨rfl,hi,f1,hx,hs⟩ step
 simp only at hi hx hs step
 simp only[eC.ju,zN,zO,eC.aZ,bu]
 have vj:=f1.bI cW
 by_cases aJ:i<y.1.args.length
 ·have dZ:(i:Int)<y.1.args.length:=by omega
  have g1:y.1.args[i]?=some y.1.args[i]:=zJ aJ
  have iz:y.1.args.take (i+1)=y.1.args.take i++[y.1.args[i]]:=by rw[List.take_add_one,g1];rfl
  generalize y.1.args[i]=a at *
  simp only[zL dZ,eC.n9,ap,zD,zF,zC,zI,eC.n8]
  refine iK (ha.be f1) Arg.b8 (Arg.h_ a) g1 rfl rfl (fun id hid=>hW id (.inr (zR f1.next hid))) fun vn h2 f2 rA ov=>?_
  have bY:=f1.bQ f2
  simp only[eC.n7,aj,aF,ov,aA,zG,Arg.enc,zA,zB,ab]
  refine gY (enc:=Sb) jr z3 (bY.bI om) fun _=>?_
  rw[NI]
  have w2:IntKind.i64.wrap ((i:Int)+1)=((i+1:Nat):Int):=by rw[aX (by omega) (by omega)];simp
  refine Gy (f:=dx) (t:=s9 env a.name) iR (by omega) rfl (by omega) rfl rfl (hx.bp f2 fun _ _ h=>h) (fun id off n e=>hW id (.inr (hs id off n e))) (by rw[zZ,yA];omega) fun z h3 hz HK f3=>?_
  have fD:Fr h h3 fun _=>False:=bY.trans (f3.mono fun j ⟨off,n,e⟩=>.inr (hs j off n e))
  simp only[eC.n6,bg,w2]
  refine step (i+1,z) _ h3 (by simp only;omega) ⟨rfl,by simp only;omega,fD,?_,fun id off n e=>zR bY.next (HK id off n e)⟩
  rw[iz,List.map_append]
  exact hz
 ·have eG:¬(i:Int)<y.1.args.length:=by omega
  have e:i=y.1.args.length:=by omega
  rw[e,List.take_length]at hx
  have lK:=px.be f1
  simp only[zK eG,eC.n9,ap,zE,zD,zC,zH,zV,eC.n5,aj,aF,vj,aA,zG,ay,zA,zB,ab,zN,zO]
  refine dX (f1.bI ow) rfl fun _=>?_
  refine⟨TW TQ n0 h1,fun id hs _=>hW id (TW.back (TW.bp f1) hs),hA h1 _ _ y.1.name _ x5 w pl place xp xo l lK (rt.be f1) hx.gy (Hp px.x hs) ?_ (fun _ h=>h) ?_ ?_⟩
  ·rcases hu with⟨u1,_⟩ |⟨jj,d,u1,u2,u3,u4,_⟩
   ·exact .inl u1
   ·exact .inr ⟨jj,d,u1,u2,u3,by simpa using u4⟩
  ·intro e h2 hb hp f2
   simp only[d_,zT,eC.n4,ap,zD,zF,zC,zI,eC.n3]
   exact he e h2 hb hp (TW.trans (TW.bp f1) f2)
  ·intro l2 mM qt nM h2 hb fH f2
   simp only[d_,zS,eC.n4,ap,zE,zD,zC,zH]
   exact hk l2 mM qt nM h2 hb fH (TW.trans (TW.bp f1) f2)
end
theorem GB.inv{bk:Bk}{k:Nat}{ps:List ByteArray}{r:Row}{l:List Row}(h:GB bk k ps (r::l)):(0<=r.rows/\r.rows<=l.length)/\GB bk k ps (l.drop r.rows.toNat)/\((r.kind=aG/\GB bk k ps (l.take r.rows.toNat))\/(r.kind≠aG/\At bk k r)):=by
 cases h with
 |vf h0 h1 h2 h3 h4=>exact⟨by omega,by rw[h1];exact h4,.inr ⟨by rw[h0];decide,h2⟩⟩
 |vg h0 h1 h2 h3=>exact⟨h1,h3,.inl ⟨h0,h2⟩⟩
section
variable {n0 p:Nat} {xr:AV} {bk:Bk} {ids:List Nat} {qm bm gm:Nat} {rs:List (Row×AV)} {k:Nat}
theorem OU(sc:SC bk rs)(hA:BW n0 p xr bk ids qm bm gm rs k)(n:Nat):JX n0 p xr bk ids qm bm gm rs k n:=by
 induction n using Nat.strongRecOn with
 |ind n ih=>
 intro h M R a env mb w pl place xp xo l ps px rt hn om hg hM he hk
 apply eC.aO
 unfold eC.fq
 refine dF rfl fun vw h1 f1 U3 ow=>?_
 unfold eC.ea eC.dV
 have hlen:=rt.n
 refine cJ (ι:=Nat×OL×Int×AV×AV) (fun i v h'=>v=[.ptr p 0,I (a+n),.mp mb,I place,.ptr vw 0,I (a+(n-i.1:Nat):Int)]/\i.1<=n/\PX n0 h' p xr bk ids qm bm gm i.2.1 i.2.2.1 i.2.2.2.1 i.2.2.2.2/\GB bk k ps (sg rs (a+(n-i.1)) i.1)/\h'.obj vw=some (aI (qp w) 3 100) /\
  bx bk (rs.map (·.1)) k env w place (sg rs (a+(n-i.1)) i.1) i.2.1=bx bk (rs.map (·.1)) k env w place (sg rs a n) l/\Fr h h' (TW TQ n0 h)) (fun i=>i.1) (n,l,pl,xp,xo) ⟨by simp,zU _,px.be f1,by simpa using hg,ow,by simp,TW.bp f1⟩ ?_
 rintro K ⟨m,l1,A3,Ay,u_⟩ v h2 ⟨rfl,hm,fH,pZ,PL,cm,f2⟩ step
 simp only at hm fH pZ cm step
 have AU:=rt.vQ f2
 have KU:h2.obj mb=some (z_ env):=TW.obj f2 om rfl
 have HU:∀{h3:AH},Fr h h3 (TW TQ n0 h)->∀id,TW TQ n0 h3 id\/h3.next<=id->(M id\/h.next<=id):=fun{h3} f id hid=>hid.elim (fun hid=>(TW.back f hid).elim (fun h=>.inl (hM id h)) .inr) (fun hid=>.inr (zR f.next hid))
 unfold eC.cT
 simp only[zN,zO,eC.dG,bu]
 cases m with
 |zero=>
  have e1:decide ((a:Int)+(n-0:Nat)<a+n)=false:=by simp
  rw[IK,DV]at cm
  simp only[e1,eC.cU,ap,zE,zD,zC,zH,zV,eC.n1]
  simpa using hk l1 A3 Ay u_ h2 cm.symm fH f2
 |succ m=>
  obtain⟨j,hj⟩:∃j,j=a+(n-(m+1)):=⟨_,rfl⟩
  have ej:(a:Int)+(n-(m+1):Nat)=(j:Int):=by omega
  have e1:decide ((j:Int)<a+n)=true:=by simp;omega
  rw[<-hj]at cm pZ
  obtain⟨y,hy⟩:∃y,rs[j]?=some y:=⟨rs[j]'(by omega),zJ _⟩
  rw[IJ hy]at cm pZ
  rw[BR]at cm
  obtain⟨⟨b0,b1⟩,gd,gk⟩:=pZ.inv
  rw[AP (by omega)]at b1
  obtain⟨kk,kz⟩:∃kk:Nat,y.1.rows=kk:=⟨y.1.rows.toNat,by omega⟩
  have rD:kk<=m:=by omega
  rw[kz,zY,oU rD,oV]at cm
  rw[kz,zY,oU rD]at gk
  rw[kz,zY,oV]at gd
  have w1:∀x:Int,0<=x/\x<=1000000000->IntKind.i64.wrap x=x:=fun x hx=>aX (by omega) (by omega)
  simp only[e1,ej,eC.cU,ap,zD,zF,zC,zI,eC.cX,aL,aj,aF,fH.p,aA,zG,zA,ab]
  refine iK AU.r fX (AU.one hy) hy rfl rfl (fun id hid=>HU f2 id (.inr hid)) fun vr h3 f3 _ oH=>?_
  have fD:=TW.trans f2 (TW.bp f3)
  have we:=fH.be f3
  have uC:∀l' gL jz jA h',bx bk (rs.map (·.1)) k env w place (sg rs (j+1+kk) (m-kk)) l'=bx bk (rs.map (·.1)) k env w place (sg rs a n) l->PX n0 h' p xr bk ids qm bm gm l' gL jz jA->Fr h3 h' (TW TQ n0 h3) ->
    eC.n2 (fun id=>M id\/h.next<=id) (aK Pg [.tmp 12] R) K (fun(i:Nat) (vs:List AV) (h:AH)=>if i=0 then eC.n1 (fun id=>M id\/h.next<=id) (aK Pg [.tmp 12] R) (aK Pg [.tmp 12] R) (fun _ _ _=>False) (fun v h=>R (.b6 v) h) h else False) (fun v h=>R (.b6 v) h) (.ptr p 0) (I (a+n)) (.mp mb) (I place) (.ptr vw 0) (I j) h':=fun l' gL jz jA h' yI Kr f'=>by
   have jT:=TW.trans fD f'
   simp only[eC.n2,aL,aj,aF,Kr.p,aA,zG,zA,ab]
   refine jI (k:=4) (rt.vQ jT).r fX hy (by omega) rfl fun _=>?_
   rw[kz]
   simp only[bg,w1 (1+(kk:Int)) (by omega),w1 ((j:Int)+(1+kk)) (by omega)]
   have e8:j+1+kk=a+(n-(m-kk)):=by omega
   have e9:(j:Int)+(1+kk)=a+(n-(m-kk):Nat):=by omega
   rw[e8]at yI gd
   exact step (m-kk,l',gL,jz,jA) _ h' (by simp only;omega) ⟨by rw[<-e9],by simp only;omega,Kr,gd,TW.obj f' (f3.bI PL) rfl,yI,jT⟩
  have e4:(⟨#[114,101,112,101,97,116]⟩:ByteArray)=aG:=rfl
  simp only[eC.cV,aj,aF,oH,aA,zG,ay,zA,zB,ab,cD,e4]
  have EY:=f3.bI PL
  rcases gk with⟨g1,g2⟩ |⟨g1,g2⟩
  ·rw[zX g1]at cm
   simp only[zL g1,eC.cE,ap,zD,zF,zC,zI]
   refine SY (ih kk (by omega)) we (rt.vQ fD) (by omega) (TW.obj fD om rfl) EY oH kz g2 (HU fD) ?_ ?_ (sc.nm y (zP hy))
   ·intro e h4 hb hp f4
    rw[hb]at cm
    simpa using he e h4 cm.symm hp (TW.trans fD f4)
   ·intro l' gL jz jA h4 hb tv f4
    rw[hb]at cm
    exact uC l' gL jz jA h4 cm tv f4
  ·rw[zW g1]at cm
   simp only[zK g1,eC.cE,ap,zE,zD,zC,zH]
   refine SX hA we (rt.vQ fD) hy (TW.obj fD om rfl) EY oH g2 (HU fD) ?_ ?_
   ·intro e h4 hb hp f4
    rw[hb]at cm
    simpa using he e h4 cm.symm hp (TW.trans fD f4)
   ·intro l' gL jz jA h4 hb tv f4
    rw[hb]at cm
    exact uC l' gL jz jA h4 cm tv f4
end
end
section
open Go.Ab
attribute [-simp] aH az
section
variable {n0 p:Nat} {xr:AV} {bk:Bk} {ids:List Nat} {qm bm gm:Nat} {rs:List (Row×AV)} {k:Nat}
theorem Hg{bk:Bk}{L:List Row}{nm:ByteArray}{qs:List Int}{w:iE}{pl:Int}{l:OL}(h:gE bk.ds nm=none):iY bk L k nm qs w pl l=jX l (ko 1 nm qs 0 w) pl:=by
 unfold iY
 rw[Jy h]
theorem Hf{bk:Bk}{L:List Row}{d:dH}{j:Nat}{qs:List Int}{w:iE}{pl:Int}{l:OL}(a:l6 bk)(hd:bk.ds[j]?=some d)(hj:j<k):iY bk L k d.name qs w pl l=if d.ops=0 then .ok l else bx bk L j (d.params.zip qs) w pl (xl L d) l:=by
 unfold iY
 rw[ON a hd]
 simp only[hd,zX hj]
theorem MB(sc:SC bk rs)(hB:∀j n,j<k->JX n0 p xr bk ids qm bm gm rs j n):BW n0 p xr bk ids qm bm gm rs k:=by
 intro h M R nm qs xq w pl place xp xo l px rt hq sep Ed hM he hk
 apply lA.aO
 unfold lA.bN
 refine dF rfl fun vw h1 f1 U3 ow=>?_
 have lK:=px.be f1
 have Dv:∀{h3:AH},Fr h h3 (TW TQ n0 h)->∀id,TW TQ n0 h3 id->(M id\/h.next<=id):=fun{h3} f id hid=>(TW.back f hid).elim (fun h=>.inl (hM id h)) .inr
 simp only[lA.bP,aL,aj,aF,lK.p,aA,zG,zA,zB,ab]
 refine gY (enc:=Sb) jr z87 lK.m.g fun _=>?_
 rcases Ed with Ed |⟨j,d,hj,hd,Ds,hlen⟩
 ·rw[Hg Ed]at he hk
  rcases nl (n:=nm) lK.m.len with⟨e1,_⟩ |⟨k',d',id,_,e2,_,_⟩
  ·rw[e1]
   simp only[fL,zV,c9,zA,zB,ab,lA.bM,d_,zT,lA.bF,ap,zD,zF,zC,zI,lA.br]
   refine⟨[I 1,Sb nm,xq,I 0,B false,U 0,U 0],?_,?_⟩
   ·simp[dU,putCells,eY,qY,hq.one.2]
   ·refine dX ow rfl fun _=>?_
    refine⟨TW TQ n0 h1,fun id hs _=>Dv (TW.bp f1) id hs,ET lK (hq.be f1) sep (fun _ h=>h) ?_ ?_⟩
    ·intro h2 hb hp f2
     simpa using he _ h2 hb hp (TW.trans (TW.bp f1) f2)
    ·intro l' gL jz jA h2 hb fH f2
     simpa using hk l' gL jz jA h2 hb fH (TW.trans (TW.bp f1) f2)
  ·rw[Ed]at e2;cases e2
 ·subst Ds
  rw[Hf sc.bf.i hd hj]at he hk
  obtain⟨id,i1,i2,xd,od,hxd⟩:=Cc lK.m sc.bf.i hd
  rw[i2]
  simp only[fL,zV,c9,zA,zB,ab,lA.bM,d_,zS,lA.bF,ap,zE,zD,zC,zH,lA.ba,aL,aj,aF,od,aA,zG,eO]
  by_cases k1:d.ops=0
  ·rw[zX k1]at hk
   have iw:(d.ops==0)=true:=by simp[k1]
   simp only[iw,lA.bc,ap,zD,zF,zC,zI,lA.aZ]
   simpa using hk l pl xp xo h1 rfl lK (TW.bp f1)
  ·rw[zW k1]at he hk
   have iw:(d.ops==0)=false:=by simpa using k1
   simp only[iw,lA.bc,ap,zE,zD,zC,zH,lA.n9]
   refine Aa (enc:=Sb) fun mb h2 KU Zn f2=>?_
   have bY:=f1.bQ f2
   have YS:=f2.bI od
   have NV:bC nr 1 9 h2 xd d.params:=hxd.bp f2 fun _ _ h=>h
   simp only[lA.n8,aL,aj,aF,YS,aA,zG,zA,zB,ab,NV.gy.len.1,NV.gy.len.2,zH]
   have jQ:=(sc.bf.i.ok.ds d (zP hd)).1
   have VE:=(sc.bf.a d (zP hd)).2
   have Zi:cb dx 1 3 h2 xq qs:=hq.be bY
   unfold lA.n7
   refine cJ (ι:=Nat) (fun i v h'=>v=[.ptr p 0,xq,I place,.ptr vw 0,.ptr id 0,.mp mb,xd,I d.params.length,I i]/\i<=d.params.length/\Fr h2 h' (·=mb)/\h'.obj mb=some (z_ ((d.params.zip qs).take i))) (fun i=>d.params.length-i) 0 ⟨rfl,by omega,Fr.refl,by rw[List.take_zero];exact KU⟩ ?_
   rintro K i v h3 ⟨rfl,hi,f3,E3⟩ step
   have dr:∀{x:Nat}{o:AO},h2.obj x=some o->o.ty≠157->h3.obj x=some o:=fun ho b7=>f3.obj ho (fun e=>by subst e;rw[KU]at ho;cases ho;exact b7 rfl)
   have aaN:cb nr 1 9 h3 xd d.params:=NV.gy.fr f3 fun x o ho ht e=>by subst e;rw[KU]at ho;cases ho;exact absurd (ht rfl) (show(157:Nat)≠9 by decide)
   have hq3:cb dx 1 3 h3 xq qs:=Zi.fr f3 fun x o ho ht e=>by subst e;rw[KU]at ho;cases ho;exact absurd (ht rfl) (show(157:Nat)≠3 by decide)
   have fz:Fr h h3 fun _=>False:=bY.trans (f3.mono fun x e=>.inr (by subst e;exact zR f1.next Zn))
   simp only[lA.cT,zN,zO,lA.n6,bu]
   by_cases aJ:i<d.params.length
   ·have dZ:(i:Int)<d.params.length:=by omega
    have g1:d.params[i]?=some d.params[i]:=zJ aJ
    have g2:qs[i]?=some (qs[i]'(by omega)):=zJ _
    have tk:(d.params.zip qs).take (i+1)=(d.params.zip qs).take i++[(d.params[i],qs[i]'(by omega))]:=by
     rw[List.take_add_one,show(d.params.zip qs)[i]?=some (d.params[i],qs[i]'(by omega)) from List.getElem?_zip_eq_some.2 ⟨g1,g2⟩];rfl
    have kZ:ee d.params[i] (((d.params.zip qs).take i).map fun x=>(x.1,I x.2))=none:=by
     have hm:gB d.params[i] (d.params.take i)=false:=by
      cases hx:gB d.params[i] (d.params.take i) with
      |false=>rfl
      |true=>rw[show Gf d.params=true from Cr g1 hx]at VE;cases VE
     have h5:=lb (n:=d.params[i]) (l:=((d.params.zip qs).take i).map fun x=>(x.1,I x.2))
     have h6:(((d.params.zip qs).take i).map fun x=>(x.1,I x.2)).map (·.1)=d.params.take i:=by
      rw[List.map_map]
      show((d.params.zip qs).take i).map (fun x=>x.1)=_
      rw[List.map_take,List.map_fst_zip (by omega)]
     rw[h6,hm]at h5
     cases hy:ee d.params[i] (((d.params.zip qs).take i).map fun x=>(x.1,I x.2)) with
     |none=>rfl
     |some _=>rw[hy]at h5;cases h5
    have w1:IntKind.i64.wrap ((i:Int)+1)=((i+1:Nat):Int):=by rw[aX (by omega) (by omega)];simp
    simp only[zL dZ,lA.n5,ap,zD,zF,zC,zI,lA.n4]
    refine ma aaN (fun _=>rfl) g1 rfl fun _=>?_
    simp only[lA.n3]
    refine ma hq3 (fun _=>rfl) g2 rfl fun _=>?_
    refine ua (enc:=Sb) (n:=d.params[i]) jr (.inr (zR f1.next Zn)) E3 kZ fun h4 om4 f4=>?_
    simp only[lA.n2,bg,w1]
    refine step (i+1) _ h4 (by omega) ⟨rfl,by omega,f3.trans (f4.mono fun _ h=>.inl h),?_⟩
    rw[tk,om4,z_,List.map_append]
    rfl
   ·have eG:¬(i:Int)<d.params.length:=by omega
    have e:i=d.params.length:=by omega
    rw[e,List.take_of_length_le (by rw[List.length_zip];omega)]at E3
    obtain⟨a,n,ha,hn,han,Zy⟩:=sc.dk j d hd
    have we:=px.be fz
    have hbo:xl (rs.map (·.1)) d=sg rs a n:=by
     unfold xl
     rw[ha,hn,AQ]
     congr 1
     omega
    rw[hbo]at he hk
    have od3:=dr YS (show(127:Nat)≠157 by decide)
    have EY:=dr (f2.bI ow) (show(100:Nat)≠157 by decide)
    simp only[zK eG,lA.n5,ap,zE,zD,zC,zH,zV,lA.n1,zN,zO,aL,aj,aF,od3,aA,zG,zA,zB,ab,ha,hn]
    refine dX EY rfl fun _=>?_
    refine⟨TW TQ n0 h3,fun id hs _=>Dv (TW.bp fz) id hs,hB j n hj h3 _ _ a _ mb w pl place xp xo l d.params we (rt.be fz) (by simpa using han) E3 (by rw[AQ];exact Zy) (fun _ h=>h) ?_ ?_⟩
    ·intro e h4 hb hp f4
     simpa using he e h4 hb hp (TW.trans (TW.bp fz) f4)
    ·intro l' gL jz jA h4 hb tv f4
     simpa using hk l' gL jz jA h4 hb tv (TW.trans (TW.bp fz) f4)
theorem JG(sc:SC bk rs):BW n0 p xr bk ids qm bm gm rs k:=by
 induction k using Nat.strongRecOn with
 |ind k ih=>exact MB sc fun j n hj=>OU sc (ih j hj) n
end
end
section
open Go.Ab
attribute [-simp] aH az
theorem sd{t:TypeId}{c:Bool}{x y:Int}{K:AV->Prop}:ag Pg .and t c (U x) (U y) K=K (U (lW x y)):=by
 simp[ag,lW]
theorem Nw{t:TypeId}{c:Bool}{x y:Int}{K:AV->Prop}:ag Pg .or t c (U x) (U y) K=K (U (CW x y)):=by
 simp[ag,CW]
theorem CV{t:TypeId}{c:Bool}{x y:Int}{K:AV->Prop}:ag Pg .sub t c (U x) (U y) K=K (U (IntKind.u64.wrap (x-y))):=by
 simp[ag]
theorem wm{t:TypeId}{c:Bool}{x y:Int}{K:AV->Prop}:ag Pg .neq t c (U x) (U y) K=K (B (x != y)):=by
 simp[ag]
theorem Ub{n:Int}{K:AV->Prop}:qi (some .u64) (I n) K=K (U (IntKind.u64.wrap n)):=rfl
def Xi(n0 p:Nat)(xr:AV)(bk:Bk)(ids:List Nat)(qm bm gm:Nat)(rs:List (Row×AV))(n:Nat):Prop:=
 ∀(h:AH)(M:Nat->Prop)(R:AE->AH->Prop)(a:Nat)(w:iE)(pl:Int)(xp xo:AV)(l:OL),PX n0 h p xr bk ids qm bm gm l pl xp xo->RT h xr rs->a+n<=rs.length->GO bk (sg rs a n)->(∀id,TW TQ n0 h id->M id) ->
  (∀e h',fY bk (rs.map (·.1)) w (sg rs a n) l=.error e->PE n0 xr bk ids qm bm gm h' p e->Fr h h' (TW TQ n0 h)->R (.ret (B false)) h') ->
  (∀l' gL jz jA h',fY bk (rs.map (·.1)) w (sg rs a n) l=.ok l'->PX n0 h' p xr bk ids qm bm gm l' gL jz jA->Fr h h' (TW TQ n0 h)->R (.ret (B true)) h') ->
  aB Pg 38 [.ptr p 0,I a,I (a+n),.agg (qp w)] h M R
section
variable {W:Nat->Prop} {QR QN:VK} {QE:Nat->VK} {QP:AV->AH->Prop} {h:AH} {n0 p vw vr:Nat} {xr xp xo x2:AV} {bk:Bk} {ids:List Nat} {qm bm gm:Nat} {l:OL} {pl:Int} {rs:List (Row×AV)} {w:iE} {y:Row×AV} {j kk:Nat} {one:Except Int OL}
structure DK (W:Nat->Prop) (QR QN:VK) (QE:Nat->VK) (QP:AV->AH->Prop) (h:AH) (n0 p vw vr:Nat) (xr xp xo x2:AV) (bk:Bk) (ids:List Nat) (qm bm gm:Nat) (l:OL) (pl:Int) (rs:List (Row×AV)) (w:iE) (y:Row×AV) (j:Nat) (one:Except Int OL):Prop where
 sc:SC bk rs
 px:PX n0 h p xr bk ids qm bm gm l pl xp xo
 rt:RT h xr rs
 hy:rs[j]?=some y
 ow:h.obj vw=some (aI (qp w) 3 100)
 cW:h.obj vr=some (aI (ay y) 6 46)
 hW:∀id,TW TQ n0 h id\/h.next<=id->W id
 he:∀e h',one=.error e->PE n0 xr bk ids qm bm gm h' p e->Fr h h' (TW TQ n0 h)->QR [B false] h'
 hk:∀l' gL jz jA h',one=.ok l'->PX n0 h' p xr bk ids qm bm gm l' gL jz jA->Fr h h' (TW TQ n0 h)->dl.n2 W QR QN QE QP (.ptr p 0) x2 (.ptr vw 0) (I j) h'
theorem yd(k:DK W QR QN QE QP h n0 p vw vr xr xp xo x2 bk ids qm bm gm l pl rs w y j one){e:Int}{h':AH}(h1:one=.error e)(h2:PE n0 xr bk ids qm bm gm h' p e)(h3:Fr h h' (TW TQ n0 h)):dl.n5 W QR QN QE QP (.ptr p 0) x2 (.ptr vw 0) (I j) (B false) h':=by
 simp only[dl.n5,d_,zT,dl.n4,ap,zD,zF,zC,zI,dl.n3]
 exact k.he e h' h1 h2 h3
theorem uZ(k:DK W QR QN QE QP h n0 p vw vr xr xp xo x2 bk ids qm bm gm l pl rs w y j one){l':OL}{gL:Int}{jz jA:AV}{h':AH}(h1:one=.ok l')(h2:PX n0 h' p xr bk ids qm bm gm l' gL jz jA)(h3:Fr h h' (TW TQ n0 h)):dl.n5 W QR QN QE QP (.ptr p 0) x2 (.ptr vw 0) (I j) (B true) h':=by
 simp only[dl.n5,d_,zS,dl.n4,ap,zE,zD,zC,zH]
 exact k.hk l' gL jz jA h' h1 h2 h3
theorem S9(hB:Xi n0 p xr bk ids qm bm gm rs kk)(k:DK W QR QN QE QP h n0 p vw vr xr xp xo x2 bk ids qm bm gm l pl rs w y j (hG (fY bk (rs.map (·.1)) w (sg rs (j+1) kk)) y.1.num.toNat l))(hj:j+1+kk<=rs.length)(Lv:y.1.rows=kk)(hg:GO bk (sg rs (j+1) kk)) :
  dl.bP W QR QN QE QP (.ptr p 0) x2 (.ptr vw 0) (I j) (.ptr vr 0) (B true) h:=by
 unfold dl.bP dl.bM
 have hlen:=k.rt.n
 have qo:=k.sc.nm y (zP k.hy)
 refine cJ (ι:=(Nat×Bool)×OL×Int×AV×AV) (fun i v h'=>v=[.ptr p 0,x2,.ptr vw 0,I j,.ptr vr 0,B i.1.2,I (y.1.num.toNat-i.1.1:Nat)]/\i.1.1<=y.1.num.toNat/\PX n0 h' p xr bk ids qm bm gm i.2.1 i.2.2.1 i.2.2.2.1 i.2.2.2.2 /\
  (i.1.2=true->hG (fY bk (rs.map (·.1)) w (sg rs (j+1) kk)) i.1.1 i.2.1=hG (fY bk (rs.map (·.1)) w (sg rs (j+1) kk)) y.1.num.toNat l) /\
  (i.1.2=false->hG (fY bk (rs.map (·.1)) w (sg rs (j+1) kk)) y.1.num.toNat l=.error i.2.2.1)/\Fr h h' (TW TQ n0 h)) (fun i=>i.1.1) ((y.1.num.toNat,true),l,pl,xp,xo) ⟨by simp,zU _,k.px,fun _=>rfl,(fun h=>by cases h),TW.bp Fr.refl⟩ ?_
 rintro K ⟨⟨c,Ju⟩,l1,A3,Ay,u_⟩ v h1 ⟨rfl,hc,lK,cm,wQ,f1⟩ step
 simp only at hc lK cm wQ step
 have vj:h1.obj vr=some (aI (ay y) 6 46):=TW.obj f1 k.cW rfl
 have Hy:h1.obj vw=some (aI (qp w) 3 100):=TW.obj f1 k.ow rfl
 have fin:(Ju=true->hG (fY bk (rs.map (·.1)) w (sg rs (j+1) kk)) y.1.num.toNat l=.ok l1)->dl.n5 W QR QN QE QP (.ptr p 0) x2 (.ptr vw 0) (I j) (B Ju) h1:=fun hf=>by
  cases Ju with
  |true=>exact uZ k (hf rfl) lK f1
  |false=>exact yd k (wQ rfl) ⟨_,_,_,lK⟩ f1
 simp only[dl.ju,zN,zO,dl.bF,aj,aF,vj,aA,zG,ay,zA,zB,ab,bu]
 cases c with
 |zero=>
  have e1:decide (((y.1.num.toNat-0:Nat):Int)<y.1.num)=false:=by simp;omega
  simp only[hG]at cm
  simp only[e1,dl.br,dW,zS,zE,zD,zC,zH,dl.ba,c_,if_false,dl.bc,ap,zV,zN,zO]
  exact fin fun hf=>(cm hf).symm
 |succ c=>
  have e1:decide (((y.1.num.toNat-(c+1):Nat):Int)<y.1.num)=true:=by simp;omega
  simp only[e1,dl.br,dW,zS,zD,zF,zC,zI,dl.ba,c_,zV,dl.bc]
  cases Ju with
  |false=>
   simp only[ap,zE,zD,zC,zH,zV,zN,zO]
   exact fin (fun h=>by cases h)
  |true=>
   have w1:∀x:Int,0<=x/\x<=1000000000->IntKind.i64.wrap x=x:=fun x hx=>aX (by omega) (by omega)
   have cm:=cm rfl
   simp only[hG]at cm
   simp only[ap,zD,zF,zC,zI,dl.aZ,aL,aj,aF,lK.p,aA,zG,Nat.reduceAdd,zA,zB,ab,lK.pU.1,lK.pU.2,zH,dl.n9,vj,ay,Lv,bg,w1 ((j:Int)+1) (by omega),w1 ((j:Int)+1+kk) (by omega)]
   refine dX Hy rfl fun _=>?_
   have w3:IntKind.i64.wrap (((y.1.num.toNat-(c+1):Nat):Int)+1)=((y.1.num.toNat-c:Nat):Int):=by rw[aX (by omega) (by omega)];omega
   have Z5:∀(xU:Bool) l2 mM qt nM h2,PX n0 h2 p xr bk ids qm bm gm l2 mM qt nM->Fr h h2 (TW TQ n0 h) ->
     (xU=true->(if l2.length=l1.length then Except.ok l2 else hG (fY bk (rs.map (·.1)) w (sg rs (j+1) kk)) c l2)=hG (fY bk (rs.map (·.1)) w (sg rs (j+1) kk)) y.1.num.toNat l) ->
     (xU=false->hG (fY bk (rs.map (·.1)) w (sg rs (j+1) kk)) y.1.num.toNat l=.error mM) ->
     dl.n8 W QR K (fun(i:Nat) (vs:List AV) (h:AH)=>if i=3 then dl.n5 W QR QN QE QP (vs.getD 0 aa) (vs.getD 1 aa) (vs.getD 2 aa) (vs.getD 3 aa) (vs.getD 4 aa) h else if i=2 then dl.n5 W QR QN QE QP (vs.getD 0 aa) (vs.getD 1 aa) (vs.getD 2 aa) (vs.getD 3 aa) (vs.getD 4 aa) h else if i=1 then dl.n2 W QR QN QE QP (vs.getD 0 aa) (vs.getD 1 aa) (vs.getD 2 aa) (vs.getD 3 aa) h else QE i vs h) QP (.ptr p 0) x2 (.ptr vw 0) (I j) (.ptr vr 0) (B xU) (I (y.1.num.toNat-(c+1):Nat)) (I l1.length) h2:=fun xU l2 mM qt nM h2 fH f2 hq hf=>by
    simp only[dl.n8,aL,aj,aF,fH.p,aA,zG,Nat.reduceAdd,zA,zB,ab,fH.pU.1,fH.pU.2,zH,eO]
    by_cases k1:l2.length=l1.length
    ·have iw:((l2.length:Int)==(l1.length:Int))=true:=by rw[k1];simp
     simp only[iw,dl.n7,ap,zD,zF,zC,zI,zV,zN,zO]
     cases xU with
     |true=>
      have:=hq rfl
      rw[zX k1]at this
      exact uZ k this.symm fH f2
     |false=>exact yd k (hf rfl) ⟨_,_,_,fH⟩ f2
    ·have iw:((l2.length:Int)==(l1.length:Int))=false:=by simp;omega
     simp only[iw,dl.n7,ap,zE,zD,zC,zH,dl.n6,bg,w3]
     refine step ((c,xU),l2,mM,qt,nM) _ h2 (by simp only;omega) ⟨rfl,by simp only;omega,fH,fun hh=>?_,hf,f2⟩
     have:=hq hh
     rwa [zW k1]at this
   refine⟨TW TQ n0 h1,fun id hs _=>k.hW id (TW.back f1 hs),hB h1 _ _ (j+1) w A3 Ay u_ l1 lK (k.rt.vQ f1) hj hg (fun _ h=>h) ?_ ?_⟩
   ·intro e h2 hb hp f2
    rw[hb]at cm
    obtain⟨l2,qt,nM,fH⟩:=hp
    exact Z5 false l2 e qt nM h2 fH (TW.trans f1 f2) (fun h=>by cases h) (fun _=>cm.symm)
   ·intro l2 mM qt nM h2 hb fH f2
    rw[hb]at cm
    exact Z5 true l2 mM qt nM h2 fH (TW.trans f1 f2) (fun _=>cm) (fun h=>by cases h)
end
end
section
open Go.Ab
attribute [-simp] aH az
theorem Wx{xq:AV}(hq:b_ xq=some [xq]){k b:Int}:dU (fun i=>[(0,1),(1,1),(2,1),(3,1),(4,1),(5,1),(6,1)][i]?) ([Value.int .i64 0,.string ⟨#[]⟩,.slice none 0 0,.int .i64 0,.bool false,.int .u64 0,.int .u64 0].map .sc) [(0,I k),(2,xq),(3,I b)]=some [I k,Sb ⟨#[]⟩,xq,I b,B false,U 0,U 0]:=by
 simp[dU,putCells,eY,qY,hq]
theorem Ww{xq:AV}(hq:b_ xq=some [xq]){k:Int}:dU (fun i=>[(0,1),(1,1),(2,1),(3,1),(4,1),(5,1),(6,1)][i]?) ([Value.int .i64 0,.string ⟨#[]⟩,.slice none 0 0,.int .i64 0,.bool false,.int .u64 0,.int .u64 0].map .sc) [(0,I k),(2,xq)]=some [I k,Sb ⟨#[]⟩,xq,I 0,B false,U 0,U 0]:=by
 simp[dU,putCells,eY,qY,hq]
theorem xF{K:AV->Nat->Prop}{cs:List AV}{vn sz:Nat}{ty:TypeId}{h:AH}(ho:h.obj vn=some (aI cs sz ty))(hc:cs.length=sz)(hK:K (.agg cs) vn):al (some true) (some sz) (.ptr vn 0) h K:=by
 simp only[nX,ho,mg,zG,List.drop_zero]
 refine⟨by omega,?_⟩
 rw[List.take_of_length_le (by omega)];exact hK
theorem Rt{α:Type}{f:α->List AV}{sz:Nat}{ty:TypeId}{h:AH}{x:AV}{a:α}{r:List α}(hl:cb f sz ty h x (a::r)):∃id,x=.sl id 0 (a::r).length/\cb f sz ty h (.sl id 0 1) [a]:=by
 rcases hl with⟨_,e⟩ |⟨_,_,_,e⟩ |⟨id,rest,ro,mv,e1,e2,e3⟩
 ·cases e
 ·cases e
 ·exact⟨id,e1,.inr (.inr ⟨id,r.flatMap f++rest,ro,mv,rfl,e2,by rw[e3];simp⟩)⟩
theorem Sg{l:List fJ}{a:Arg}(hs:∀r∈l,1<=r.size/\0<=r.from_/\r.from_+r.size<=aU l)(ht:aU l<=64)(h:ij l a=0):∃g,dC l a.name=some g/\IntKind.i64.wrap (g.from_+a.index)=iu l a:=by
 obtain⟨g,hg,i0,i1⟩:=Q6 h
 have:=hs g (List.mem_of_find?_eq_some hg)
 refine⟨g,hg,?_⟩
 unfold iu
 rw[hg]
 exact aX (by omega) (by omega)
section
variable {W:Nat->Prop} {QR QN:VK} {QE:Nat->VK} {QP:AV->AH->Prop} {h:AH} {n0 p vw vr:Nat} {xr xp xo x2:AV} {bk:Bk} {ids:List Nat} {qm bm gm:Nat} {l:OL} {pl:Int} {rs:List (Row×AV)} {w:iE} {y:Row×AV} {j kk:Nat} {one:Except Int OL}
theorem DK.loc(k:DK W QR QN QE QP h n0 p vw vr xr xp xo x2 bk ids qm bm gm l pl rs w y j one){M:Nat->Prop}{R:AE->AH->Prop}{x1:AV}{args:List Arg}(ha:cb Arg.enc 2 67 h x1 args)(hl:args.length<=100000000)(Bt:∀a∈args,ij bk.qs a=0)
  (hR:∀y h',bC dx 1 3 h' y (args.map (iu bk.qs))->Sep xp y->Fr h h' (fun _=>False)->R (.ret y) h'):aB Pg 70 [.ptr p 0,x1] h M R:=
 IZ k.px.p rfl k.px.m k.sc.bf.i.ok ha hl Bt fun y h' h1 h2 h3=>hR y h' h1 (Hp k.px.x h2) h3
theorem S7(k:DK W QR QN QE QP h n0 p vw vr xr xp xo x2 bk ids qm bm gm l pl rs w y j (iY bk (rs.map (·.1)) bk.ds.length y.1.name (y.1.args.map (iu bk.qs)) w y.1.place l))(hu:At bk bk.ds.length y.1)(Bt:∀a∈y.1.args,ij bk.qs a=0) :
  dl.cL W QR QN QE QP (.ptr p 0) x2 (.ptr vw 0) (I j) (.ptr vr 0) h:=by
 obtain⟨ha,hl⟩:=k.rt.a y (zP k.hy)
 unfold dl.cL
 refine⟨fun i=>if i=7 then vw else vr,fun i _=>by show h.obj (if i=7 then vw else vr)≠none;split<;>simp[k.ow,k.cW],?_⟩
 simp only[aj,aF,k.cW,aA,zG,ay,zA,zB,ab]
 refine⟨by simp,?_⟩
 refine xF k.ow rfl ⟨rfl,⟨by simp,?_⟩⟩
 refine⟨fun _=>False,fun _ h=>h.elim,k.loc ha hl Bt fun z h1 hz Fu f1=>?_⟩
 refine⟨TW TQ n0 h1,fun id hs _=>k.hW id (TW.back (TW.bp f1) hs),JG (k:=bk.ds.length) k.sc h1 _ _ y.1.name _ z w pl y.1.place xp xo l (k.px.be f1) (k.rt.be f1) hz.gy Fu ?_ (fun _ h=>h) ?_ ?_⟩
 ·rcases hu with⟨u1,_⟩ |⟨jj,d,u1,u2,u3,u4,_⟩
  ·exact .inl u1
  ·exact .inr ⟨jj,d,u1,u2,u3,by simpa using u4⟩
 ·intro e h2 hb hp f2
  exact yd k hb hp (TW.trans (TW.bp f1) f2)
 ·intro l2 mM qt nM h2 hb fH f2
  exact uZ k hb fH (TW.trans (TW.bp f1) f2)
theorem MJ(k:DK W QR QN QE QP h n0 p vw vr xr xp xo x2 bk ids qm bm gm l pl rs w y j (jX l (ko 3 ByteArray.empty (y.1.args.map (iu bk.qs)) 0 w) y.1.place))(Bt:∀a∈y.1.args,ij bk.qs a=0) :
  dl.cE W QR QN QE QP (.ptr p 0) x2 (.ptr vw 0) (I j) (.ptr vr 0) h:=by
 obtain⟨ha,hl⟩:=k.rt.a y (zP k.hy)
 unfold dl.cE
 refine⟨fun i=>if i=6 then vw else vr,fun i _=>by show h.obj (if i=6 then vw else vr)≠none;split<;>simp[k.ow,k.cW],?_⟩
 simp only[aj,aF,k.cW,aA,zG,ay,zA,zB,ab]
 refine xF k.ow rfl ⟨rfl,⟨by simp,?_⟩⟩
 refine⟨fun _=>False,fun _ h=>h.elim,k.loc ha hl Bt fun z h1 hz Fu f1=>?_⟩
 refine⟨_,Ww hz.gy.one.2,?_⟩
 refine⟨TW TQ n0 h1,fun id hs _=>k.hW id (TW.back (TW.bp f1) hs),ET (k.px.be f1) hz.gy Fu (fun _ h=>h) ?_ ?_⟩
 ·intro h2 hb hp f2
  exact yd k hb hp (TW.trans (TW.bp f1) f2)
 ·intro l2 mM qt nM h2 hb fH f2
  exact uZ k hb fH (TW.trans (TW.bp f1) f2)
theorem Ph{a b:Arg}(sE:y.1.args=[a,b])(k:DK W QR QN QE QP h n0 p vw vr xr xp xo x2 bk ids qm bm gm l pl rs w y j (jX l (ko 2 ByteArray.empty [iu bk.qs a] (iu bk.bs b) w) y.1.place))(h0:ij bk.qs a=0)(h1:ij bk.bs b=0) :
  dl.cG W QR QN QE QP (.ptr p 0) x2 (.ptr vw 0) (I j) (.ptr vr 0) h:=by
 obtain⟨ha,hl⟩:=k.rt.a y (zP k.hy)
 rw[sE]at ha
 obtain⟨g,hg,w1⟩:=Sg k.sc.bf.i.ok.sb k.sc.bf.i.ok.tb.2 h1
 simp only[dl.cG,aL,aj,aF,k.px.p,k.cW,aA,zG,ay,zA,zB,ab]
 refine jI (i:=1) (k:=0) ha Arg.b8 rfl (by omega) rfl fun _=>?_
 refine gY (enc:=Sb) jr z93 k.px.m.b fun _=>?_
 rw[kS,hg]
 simp only[yB,fL,zE,if_false,uE]
 refine⟨_,rfl,?_⟩
 refine jI (i:=1) (k:=1) ha Arg.b8 rfl (by omega) rfl fun _=>?_
 simp only[bg,w1]
 obtain⟨id,e1,abQ⟩:=Rt ha
 unfold dl.cN
 refine⟨fun i=>if i=8 then vw else vr,fun i _=>by show h.obj (if i=8 then vw else vr)≠none;split<;>simp[k.ow,k.cW],?_⟩
 simp only[aj,aF,k.cW,aA,zG,ay,zA,zB,ab]
 rw[e1]
 refine Mo (n:=1) (by simp) ?_
 refine xF k.ow rfl ⟨rfl,⟨by simp,?_⟩⟩
 refine⟨fun _=>False,fun _ h=>h.elim,k.loc abQ (by simp) (fun c hc=>by have:=List.mem_singleton.1 hc;subst this;exact h0) fun z h1 hz Fu f1=>?_⟩
 refine⟨_,Wx hz.gy.one.2,?_⟩
 refine⟨TW TQ n0 h1,fun id hs _=>k.hW id (TW.back (TW.bp f1) hs),ET (k.px.be f1) hz.gy Fu (fun _ h=>h) ?_ ?_⟩
 ·intro h2 hb hp f2
  exact yd k hb hp (TW.trans (TW.bp f1) f2)
 ·intro l2 mM qt nM h2 hb fH f2
  exact uZ k hb fH (TW.trans (TW.bp f1) f2)
theorem W9{g:fJ}(hB:Xi n0 p xr bk ids qm bm gm rs kk)(lj:dC bk.bs y.1.name=some g)(k:DK W QR QN QE QP h n0 p vw vr xr xp xo x2 bk ids qm bm gm l pl rs w y j (match mJ w g y.1.num with |none=>.ok l |some w'=>fY bk (rs.map (·.1)) w' (sg rs (j+1) kk) l))
  (hj:j+1+kk<=rs.length) (Lv:y.1.rows=kk) (hg:GO bk (sg rs (j+1) kk)):dl.cq W QR QN QE QP (.ptr p 0) x2 (.ptr vw 0) (I j) (.ptr vr 0) h:=by
 have hlen:=k.rt.n
 simp only[dl.cq,aL,aj,aF,k.px.p,k.cW,aA,zG,ay,zA,zB,ab]
 refine gY (enc:=Sb) jr z93 k.px.m.b fun _=>?_
 rw[kS,lj]
 simp only[yB,fL,zE,if_false,uE]
 have hs:=k.sc.bf.i.ok.sb g (List.mem_of_find?_eq_some lj)
 refine fV (cs:=[I g.from_,I g.size]) rfl rfl rfl rfl (fun id hid=>k.hW id (.inr hid)) fun v1 h1 f1 _ ov=>?_
 have vj:=f1.bI k.cW
 have Hy:=f1.bI k.ow
 have Il:IntKind.u64.bits=64:=rfl
 have s0:0<=g.size:=by omega
 have hm:IntKind.u64.wrap (IntKind.u64.wrap (IntKind.u64.wrap (1*2^(min g.size.toNat 64))-1)*2^(min g.from_.toNat 64))=nW g:=rfl
 have hv:IntKind.u64.wrap (IntKind.u64.wrap y.1.num*2^(min g.from_.toNat 64))=valOf g y.1.num:=rfl
 simp only[dl.cl,aj,aF,ov,aA,zG,zA,zB,ab,EW,s0,zH,CV,hs.2.1,Il,hm,dl.bX,vj,ay,Ub,hv,dl.bT,Hy,sd,wm]
 unfold mJ at k
 by_cases k1:lW w.value (nW g)=lW (valOf g y.1.num) w.cR
 ·rw[zW (by simpa using k1)]at k
  have iw:(lW w.value (nW g) != lW (valOf g y.1.num) w.cR)=false:=by simp[k1]
  have w1:∀x:Int,0<=x/\x<=1000000000->IntKind.i64.wrap x=x:=fun x hx=>aX (by omega) (by omega)
  simp only[iw,dl.bW,ap,zE,zD,zC,zH,dl.bN,bg,w1 ((j:Int)+1) (by omega),aj,aF,vj,Hy,aA,zG,ay,zA,zB,ab,Lv,w1 ((j:Int)+1+kk) (by omega),Nw]
  refine⟨qp ⟨true,CW w.cR (nW g),CW w.value (valOf g y.1.num)⟩,by simp[dU,putCells,eY,uO],?_⟩
  refine⟨TW TQ n0 h1,fun id hs _=>k.hW id (TW.back (TW.bp f1) hs),hB h1 _ _ (j+1) _ pl xp xo l (k.px.be f1) (k.rt.be f1) hj hg (fun _ h=>h) ?_ ?_⟩
  ·intro e h2 hb hp f2
   exact yd k hb hp (TW.trans (TW.bp f1) f2)
  ·intro l2 mM qt nM h2 hb fH f2
   exact uZ k hb fH (TW.trans (TW.bp f1) f2)
 ·rw[zX k1]at k
  have iw:(lW w.value (nW g) != lW (valOf g y.1.num) w.cR)=true:=by simp[k1]
  simp only[iw,dl.bW,ap,zD,zF,zC,zI]
  exact k.hk l pl xp xo h1 rfl (k.px.be f1) (TW.bp f1)
end
end
section
open Go.Ab
attribute [-simp] aH az
theorem GO.inv{bk:Bk}{r:Row}{l:List Row}(h:GO bk (r::l)):(0<=r.rows/\r.rows<=l.length)/\O4 bk r/\(r.kind=aG\/r.kind=cz->GO bk (l.take r.rows.toNat))/\GO bk (l.drop r.rows.toNat):=by
 cases h with |cons h0 h1 h2 h3=>exact⟨h0,h1,h2,h3⟩
section
variable {n0 p:Nat} {xr:AV} {bk:Bk} {ids:List Nat} {qm bm gm:Nat} {rs:List (Row×AV)}
theorem X4(sc:SC bk rs)(n:Nat):Xi n0 p xr bk ids qm bm gm rs n:=by
 induction n using Nat.strongRecOn with
 |ind n ih=>
 intro h M R a w pl xp xo l px rt hn hg hM he hk
 apply dl.aO
 unfold dl.jf
 refine dF rfl fun vw h1 f1 U3 ow=>?_
 unfold dl.jo dl.jN
 have hlen:=rt.n
 refine cJ (ι:=Nat×OL×Int×AV×AV) (fun i v h'=>v=[.ptr p 0,I (a+n),.ptr vw 0,I (a+(n-i.1:Nat):Int)]/\i.1<=n/\PX n0 h' p xr bk ids qm bm gm i.2.1 i.2.2.1 i.2.2.2.1 i.2.2.2.2/\GO bk (sg rs (a+(n-i.1)) i.1)/\h'.obj vw=some (aI (qp w) 3 100) /\
  fY bk (rs.map (·.1)) w (sg rs (a+(n-i.1)) i.1) i.2.1=fY bk (rs.map (·.1)) w (sg rs a n) l/\Fr h h' (TW TQ n0 h)) (fun i=>i.1) (n,l,pl,xp,xo) ⟨by simp,zU _,px.be f1,by simpa using hg,ow,by simp,TW.bp f1⟩ ?_
 rintro K ⟨m,l1,A3,Ay,u_⟩ v h2 ⟨rfl,hm,fH,pZ,PL,cm,f2⟩ step
 simp only at hm fH pZ cm step
 have AU:=rt.vQ f2
 have HU:∀{h3:AH},Fr h h3 (TW TQ n0 h)->∀id,TW TQ n0 h3 id\/h3.next<=id->(M id\/h.next<=id):=fun{h3} f id hid=>hid.elim (fun hid=>(TW.back f hid).elim (fun h=>.inl (hM id h)) .inr) (fun hid=>.inr (zR f.next hid))
 unfold dl.cT
 simp only[zN,zO,dl.iN,bu]
 cases m with
 |zero=>
  have e1:decide ((a:Int)+(n-0:Nat)<a+n)=false:=by simp
  rw[IK,qW]at cm
  simp only[e1,dl.iq,ap,zE,zD,zC,zH,zV,dl.n1]
  simpa using hk l1 A3 Ay u_ h2 cm.symm fH f2
 |succ m=>
  obtain⟨j,hj⟩:∃j,j=a+(n-(m+1)):=⟨_,rfl⟩
  have ej:(a:Int)+(n-(m+1):Nat)=(j:Int):=by omega
  have e1:decide ((j:Int)<a+n)=true:=by simp;omega
  rw[<-hj]at cm pZ
  obtain⟨y,hy⟩:∃y,rs[j]?=some y:=⟨rs[j]'(by omega),zJ _⟩
  rw[IJ hy]at cm pZ
  rw[pt]at cm
  obtain⟨⟨b0,b1⟩,go,gt,gd⟩:=pZ.inv
  rw[AP (by omega)]at b1
  obtain⟨kk,kz⟩:∃kk:Nat,y.1.rows=kk:=⟨y.1.rows.toNat,by omega⟩
  have rD:kk<=m:=by omega
  rw[kz,zY,oU rD,oV]at cm
  rw[kz,zY,oU rD]at gt
  rw[kz,zY,oV]at gd
  have w1:∀x:Int,0<=x/\x<=1000000000->IntKind.i64.wrap x=x:=fun x hx=>aX (by omega) (by omega)
  simp only[e1,ej,dl.iq,ap,zD,zF,zC,zI,dl.j_,aL,aj,aF,fH.p,aA,zG,zA,ab]
  refine iK AU.r fX (AU.one hy) hy rfl rfl (fun id hid=>HU f2 id (.inr hid)) fun vr h3 f3 _ oH=>?_
  have fD:=TW.trans f2 (TW.bp f3)
  have we:=fH.be f3
  have EY:=f3.bI PL
  have dk:DK (fun id=>M id\/h.next<=id) (aK Pg [.tmp 8] R) K (fun(i:Nat) (vs:List AV) (h:AH)=>if i=0 then dl.n1 (fun id=>M id\/h.next<=id) (aK Pg [.tmp 8] R) (aK Pg [.tmp 8] R) (fun _ _ _=>False) (fun v h=>R (.b6 v) h) h else False) (fun v h=>R (.b6 v) h) h3 n0 p vw vr xr Ay u_ (I (a+n)) bk ids qm bm gm l1 A3 rs w y j (qk bk (rs.map (·.1)) w y.1 (sg rs (j+1) kk) l1):=by
   refine⟨sc,we,rt.vQ fD,hy,EY,oH,HU fD,?_,?_⟩
   ·intro e h' ho hp f'
    rw[ho]at cm
    simpa using he e h' cm.symm hp (TW.trans fD f')
   ·intro l' gL jz jA h' ho Kr f'
    rw[ho]at cm
    have jT:=TW.trans fD f'
    simp only[dl.n2,aL,aj,aF,Kr.p,aA,zG,zA,ab]
    refine jI (k:=4) (rt.vQ jT).r fX hy (by omega) rfl fun _=>?_
    rw[kz]
    simp only[bg,w1 (1+(kk:Int)) (by omega),w1 ((j:Int)+(1+kk)) (by omega)]
    have e8:j+1+kk=a+(n-(m-kk)):=by omega
    have e9:(j:Int)+(1+kk)=a+(n-(m-kk):Nat):=by omega
    simp only[mm]at cm
    rw[e8]at cm gd
    exact step (m-kk,l',gL,jz,jA) _ h' (by simp only;omega) ⟨by rw[<-e9],by simp only;omega,Kr,gd,TW.obj f' EY rfl,cm,jT⟩
  clear cm step
  have e4:(⟨#[114,101,112,101,97,116]⟩:ByteArray)=aG:=rfl
  have e5:(⟨#[105,102]⟩:ByteArray)=cz:=rfl
  have e6:(⟨#[117,115,101]⟩:ByteArray)=bw:=rfl
  have e7:(⟨#[109,101,97,115,117,114,101]⟩:ByteArray)=aQ:=rfl
  have e8:(⟨#[114,101,115,101,116]⟩:ByteArray)=bB:=rfl
  unfold qk at dk
  simp only[dl.iV,dl.jC,aj,aF,oH,aA,zG,ay,zA,zB,ab,dl.ir,cD,e4]
  by_cases k1:y.1.kind=aG
  ·rw[zX k1]at dk
   simp only[zL k1,dl.jD,ap,zD,zF,zC,zI]
   exact S9 (ih kk (by omega)) dk (by omega) kz (gt (.inl k1))
  rw[zW k1]at dk
  simp only[zK k1,dl.jD,ap,zE,zD,zC,zH,dl.jp,cD,e5]
  by_cases k2:y.1.kind=cz
  ·rw[zX k2]at dk
   obtain⟨g,lj,_⟩:=go.i k2
   rw[lj]at dk
   simp only[zL k2,dl.fq,ap,zD,zF,zC,zI]
   exact W9 (ih kk (by omega)) lj dk (by omega) kz (gt (.inr k2))
  rw[zW k2]at dk
  simp only[zK k2,dl.fq,ap,zE,zD,zC,zH,dl.ea,cD,e6]
  by_cases k3:y.1.kind=bw
  ·rw[zX k3]at dk
   simp only[zL k3,dl.dV,ap,zD,zF,zC,zI]
   exact S7 dk (go.u k3).1 (go.u k3).2
  rw[zW k3]at dk
  simp only[zK k3,dl.dV,ap,zE,zD,zC,zH,dl.dG,cD,e7]
  by_cases k4:y.1.kind=aQ
  ·rw[zX k4]at dk
   obtain⟨x,z,Y1,h0,h1⟩:=go.m k4
   rw[Y1]at dk
   simp only[zL k4,dl.cU,ap,zD,zF,zC,zI]
   exact Ph Y1 dk h0 h1
  rw[zW k4]at dk
  simp only[zK k4,dl.cU,ap,zE,zD,zC,zH,dl.cX,cD,e8]
  by_cases k5:y.1.kind=bB
  ·rw[zX k5]at dk
   obtain⟨x,hx,h0⟩:=go.s k5
   simp only[zL k5,dl.cV,ap,zD,zF,zC,zI]
   exact MJ dk (fun c hc=>by rw[hx]at hc;have:=List.mem_singleton.1 hc;subst this;exact h0)
  rw[zW k5]at dk
  simp only[zK k5,dl.cV,ap,zE,zD,zC,zH]
  exact uZ dk rfl we (TW.bp Fr.refl)
end
end
section
open Go.Ab
attribute [-simp] aH az
def OG(o:bq):Prop:=o.aD.length<=100000000/\zc o
def WG(w:iE):Prop:=(0<=w.cR/\w.cR<18446744073709551616)/\(0<=w.value/\w.value<18446744073709551616)
theorem Ep{k:Int}{n:ByteArray}{qs:List Int}{b:Int}{w:iE}(hq:qs.length<=100000000)(hw:WG w):OG (ko k n qs b w):=⟨hq,hw.1.1,hw.1.2,hw.2.1,hw.2.2⟩
def LG(l:OL):Prop:=∀x∈l,OG x.1
theorem xL{l l':OL}{o:bq}{pl:Int}(h:jX l o pl=.ok l')(hl:LG l)(ho:OG o):LG l':=by
 unfold jX at h
 split at h
 ·cases h
 ·cases h
  intro x hx
  rcases List.mem_append.1 hx with hx |hx
  ·exact hl x hx
  ·have:=List.mem_singleton.1 hx
   subst this;exact ho
theorem zq{I:OL->Prop}{f:OL->Except Int OL}(hf:∀l l',f l=.ok l'->I l->I l'):∀(n:Nat)(l l':OL),hG f n l=.ok l'->I l->I l'
 |0,l,l',h,hl=>by cases h;exact hl
 |n+1,l,l',h,hl=>by
  unfold hG at h
  split at h
  ·cases h
  ·rename_i l1 h1
   split at h
   ·cases h;exact hf _ _ h1 hl
   ·exact zq hf n l1 l' h (hf _ _ h1 hl)
theorem Gv{f:OL->Except Int OL}{x:Except Int OL}{l':OL}(h:mm f x=.ok l'):∃l1,x=.ok l1/\f l1=.ok l':=by
 cases x with
 |error e=>cases h
 |ok l1=>exact⟨l1,rfl,h⟩
theorem OV{bk:Bk}{L:List Row}(hL:∀r∈L,r.args.length<=100000000){w:iE}(hw:WG w){pl:Int}(k:Nat):∀(n:Nat){env:List (ByteArray×Int)}{rows:List Row}{l l':OL}(_:rows.length=n)(_:∀r∈rows,r∈L)(_:bx bk L k env w pl rows l=.ok l')(_:LG l),LG l':=by
 induction k using Nat.strongRecOn with
 |ind k ihk=>
 intro n
 induction n using Nat.strongRecOn with
 |ind n ih=>
 intro env rows l l' hn hr h hl
 cases rows with
 |nil=>rw[DV]at h;cases h;exact hl
 |cons r rest=>
  rw[List.length_cons]at hn
  rw[BR]at h
  obtain⟨l1,h1,h2⟩:=Gv h
  refine ih _ (by rw[List.length_drop];omega) rfl (fun x hx=>hr x (List.mem_cons_of_mem _ (List.mem_of_mem_drop hx))) h2 ?_
  split at h1
  ·exact zq (I:=LG) (fun a b sE ha=>ih _ (by rw[yA];omega) rfl (fun x hx=>hr x (List.mem_cons_of_mem _ (List.mem_of_mem_take hx))) sE ha) _ _ _ h1 hl
  ·unfold iY at h1
   have rB:=hL r (hr r (List.mem_cons_self ..))
   split at h1
   ·exact xL h1 hl (Ep (by simpa using rB) hw)
   ·split at h1
    ·cases h1;exact hl
    ·split at h1
     ·cases h1;exact hl
     ·split at h1
      ·rename_i hi
       exact ihk _ hi _ rfl (fun x hx=>List.mem_of_mem_drop (List.mem_of_mem_take hx)) h1 hl
      ·cases h1;exact hl
theorem MC{bk:Bk}{L:List Row}(hL:∀r∈L,r.args.length<=100000000){w:iE}(hw:WG w){pl:Int}{k:Nat}{nm:ByteArray}{qs:List Int}{l l':OL}(hq:qs.length<=100000000)(h:iY bk L k nm qs w pl l=.ok l')(hl:LG l):LG l':=by
 unfold iY at h
 split at h
 ·exact xL h hl (Ep hq hw)
 ·split at h
  ·cases h;exact hl
  ·split at h
   ·cases h;exact hl
   ·split at h
    ·exact OV hL hw _ _ rfl (fun x hx=>List.mem_of_mem_drop (List.mem_of_mem_take hx)) h hl
    ·cases h;exact hl
theorem IF(x:Int):0<=IntKind.u64.wrap x/\IntKind.u64.wrap x<18446744073709551616:=by
 have e:IntKind.u64.wrap x=x%18446744073709551616:=by unfold IntKind.wrap;rfl
 rw[e];omega
theorem J4{w w':iE}{g:fJ}{n:Int}(h:mJ w g n=some w'):WG w':=by
 unfold mJ at h
 split at h
 ·cases h
 ·cases h
  exact⟨IF _,IF _⟩
theorem Wm{bk:Bk}{L:List Row}(hL:∀r∈L,r.args.length<=100000000)(n:Nat):∀{w:iE}{rows:List Row}{l l':OL}(_:WG w)(_:rows.length=n)(_:∀r∈rows,r∈L)(_:fY bk L w rows l=.ok l')(_:LG l),LG l':=by
 induction n using Nat.strongRecOn with
 |ind n ih=>
 intro w rows l l' hw hn hr h hl
 cases rows with
 |nil=>rw[qW]at h;cases h;exact hl
 |cons r rest=>
  rw[List.length_cons]at hn
  rw[pt]at h
  obtain⟨l1,h1,h2⟩:=Gv h
  have rB:=hL r (hr r (List.mem_cons_self ..))
  refine ih _ (by rw[List.length_drop];omega) hw rfl (fun x hx=>hr x (List.mem_cons_of_mem _ (List.mem_of_mem_drop hx))) h2 ?_
  unfold qk at h1
  split at h1
  ·exact zq (I:=LG) (fun a b sE ha=>ih _ (by rw[yA];omega) hw rfl (fun x hx=>hr x (List.mem_cons_of_mem _ (List.mem_of_mem_take hx))) sE ha) _ _ _ h1 hl
  split at h1
  ·split at h1
   ·cases h1;exact hl
   ·split at h1
    ·cases h1;exact hl
    ·rename_i w' iW
     exact ih _ (by rw[yA];omega) (J4 iW) rfl (fun x hx=>hr x (List.mem_cons_of_mem _ (List.mem_of_mem_take hx))) h1 hl
  split at h1
  ·exact MC hL hw (by simpa using rB) h1 hl
  split at h1
  ·split at h1
   ·exact xL h1 hl (Ep (by simp) hw)
   ·cases h1;exact hl
  split at h1
  ·exact xL h1 hl (Ep (by simpa using rB) hw)
  cases h1;exact hl
end
section
open Go.Ab
attribute [-simp] aH az
section
variable {h:AH} {M:Nat->Prop} {R:AE->AH->Prop} {xr:AV}
def oR:Bk:=⟨[],[],[]⟩
theorem Uo(hx:cF xr=true/\b_ xr=some [xr])(hR:∀p qm bm gm h',PA h.next h' p xr oR [] qm bm gm 0->Fr h h' (fun _=>False)->R (.ret (.ptr p 0)) h'):aB Pg 36 [xr] h M R:=by
 apply Rj.aO
 unfold Rj.n2 Rj.n1
 refine Aa (enc:=Sb) fun qm h1 o1 hq f1=>Aa (enc:=Sb) fun bm h2 o2 hb f2=>Aa (enc:=Sb) fun gm h3 o3 hg f3=>?_
 refine⟨[xr,.mp qm,.mp bm,.mp gm,aV,I 0,I 0,aV,I 0],by simp[dU,putCells,hx.2],?_⟩
 refine dF (by show(cF xr&&_)=true;rw[hx.1];rfl) fun p h4 f4 hp o4=>?_
 have jT:=(f1.bQ f2).bQ (f3.bQ f4)
 have n1:=f1.next
 have n2:=f2.next
 have n3:=f3.next
 have l1:=h1.lt _ _ o1
 have l2:=h2.lt _ _ o2
 have fin:=hR p qm bm gm h4 ⟨⟨by omega,hq,by omega,by omega,(fun _ h=>by cases h)⟩,o4,⟨f4.bI (f3.bI (f2.bI o1)),f4.bI (f3.bI o2),f4.bI o3,rfl,(fun k d id h=>by cases h),.nil,by omega⟩⟩ jT
 simpa using fin
end
theorem Wy:oS oR:=⟨⟨⟨by decide,by decide,(fun _ h=>by cases h),(fun _ h=>by cases h),(fun _ h=>by cases h)⟩,.nil⟩,(fun _ h=>by cases h)⟩
theorem Ya:ke Pg 24=some true:=by kernel_rfl
theorem aaw:eM Pg 24=some 3:=by kernel_rfl
theorem Iz{h:AH}{R:AE->AH->Prop}{v:Nat}{q b:Int}{xo:AV}{a e:Int}(ho:h.obj v=some (aI [I q,I b,xo] 3 24))(hR:R (.ret (.cP [.agg [I q,I b,xo],I a,I e])) h):aK Pg [.cell 2 24,.tmp 3,.tmp 4] R [.ptr v 0,I a,I e] h:=by
 unfold aK ly
 rw[Ya,aaw]
 refine dX ho rfl fun _=>?_
 simpa[ly,i_] using hR
theorem BQ{q b:Int}:∀{l:List bq}{i:Nat}{n:Int},0<=(gI q b l i n).1
 |[],_,_=>by simp[gI]
 |o::l,i,n=>by
  unfold gI
  split
  ·simp
  ·split
   ·simp
   ·exact BQ
theorem Mq{q b:Int}{l:List bq}:0<=(eR q b l).1:=by
 unfold eR
 split
 ·simp
 ·split
  ·simp
  ·exact BQ
theorem Eh:dU (fun i=>[(0,1),(1,1),(2,1)][i]?) ([Value.int .i64 0,.int .i64 0,.slice none 0 0].map .sc) []=some [I 0,I 0,aV]:=rfl
section
variable {h:AH} {M:Nat->Prop} {R:AE->AH->Prop} {xr:AV} {rs:List (Row×AV)}
structure JQ (h:AH) (f:Rc) (xo:AV) (yl:List (bq×AV)):Prop where
 o:lZ h xo yl
 e:yl.map (·.1)=f.ops
 g:∀y∈yl,OG y.1
 n:yl.length<=4096
theorem Sw(rt:RT h xr rs)(hn:∀y∈rs,y.1.num<=9223372036854775807)
  (hR:∀xo yl h',JQ h' (ef (rs.map (·.1))) xo yl->Fr h h' (fun _=>False)->R (.ret (.cP [.agg [I (ef (rs.map (·.1))).q,I (ef (rs.map (·.1))).b,xo],I (ef (rs.map (·.1))).at_,I (ef (rs.map (·.1))).err])) h'):aB Pg 20 [xr] h M R:=by
 apply kG.aO
 unfold kG.bX
 have hv:=AH.cg h (aI ([Value.int .i64 0,.int .i64 0,.slice none 0 0].map AV.sc) 3 24)
 rw[aH]
 refine⟨rfl,?_⟩
 have f1:Fr h (h.alloc (aI ([Value.int .i64 0,.int .i64 0,.slice none 0 0].map AV.sc) 3 24)) (fun _=>False):=Fr.refl.alloc _
 generalize h.alloc (aI ([Value.int .i64 0,.int .i64 0,.slice none 0 0].map AV.sc) 3 24)=h1 at *
 obtain⟨v,rA⟩:∃v,v=h.next:=⟨_,rfl⟩
 rw[<-rA]at hv ⊢
 have ov:h1.obj v=some (aI [I 0,I 0,aV] 3 24):=hv
 have Kj:=rt.be f1
 unfold kG.bT
 refine⟨fun _=>False,fun _ h=>h.elim,Uo Kj.r.one fun p qm bm gm h2 pa f2=>?_⟩
 have bY:=f1.bQ f2
 have AU:=rt.be bY
 have aaO:v<h1.next:=h1.lt _ _ ov
 generalize yH:h1.next=n0 at *
 have hvN:v<n0:=aaO
 have HC:h.next<=n0:=by have:=f1.next;omega
 have PD:∀{T:TypeId->Bool}{a b:AH},Fr h a (fun _=>False)->Fr a b (TW T n0 a)->Fr h b fun _=>False:=fun fa fb=>fa.trans (fb.mono fun id hid=>.inr (zR HC hid.1))
 have EZ:h2.obj v=some (aI [I 0,I 0,aV] 3 24):=f2.bI ov
 have Wv:∀id,n0<=id->(M id\/v<=id):=fun id hid=>.inr (by omega)
 simp only[kG.bW,AU.r.len.1,AU.r.len.2,zH]
 have er:(rs.length:Int)=((0:Nat):Int)+(rs.length:Int):=by simp
 have oe:sg rs 0 rs.length=rs.map (·.1):=by unfold sg;simp
 have hL:∀r∈rs.map (·.1),r.args.length<=100000000:=fun r hr=>by
  obtain⟨z,hz,rfl⟩:=List.mem_map.1 hr
  exact(rt.a z hz).2
 have fin:∀{h':AH}{xo:AV}{yl:List (bq×AV)},h'.obj v=some (aI [I (ef (rs.map (·.1))).q,I (ef (rs.map (·.1))).b,xo] 3 24)->JQ h' (ef (rs.map (·.1))) xo yl->Fr h h' (fun _=>False) ->
   aK Pg [.cell 2 24,.tmp 3,.tmp 4] R [.ptr v 0,I (ef (rs.map (·.1))).at_,I (ef (rs.map (·.1))).err] h':=fun ho ha hf=>Iz ho (hR _ _ _ ha hf)
 have zero:∀{h':AH}{a e:Int},ef (rs.map (·.1))=⟨0,0,[],a,e⟩->h'.obj v=some (aI [I 0,I 0,aV] 3 24)->Fr h h' (fun _=>False)->aK Pg [.cell 2 24,.tmp 3,.tmp 4] R [.ptr v 0,I a,I e] h':=fun{h' a e} he ho hf=>by
  have:=fin (h':=h') (xo:=aV) (yl:=[])
  rw[he]at this
  exact this ho ⟨⟨.inl ⟨rfl,rfl⟩,(fun _ h=>by cases h)⟩,rfl,(fun _ h=>by cases h),by simp⟩ hf
 have zr:∀{h':AH}{x y z:AV},h'.obj v=some (aI [I 0,I 0,aV] 3 24)->(h'.put v 0 [x,y,z]).obj v=some (aI [x,y,z] 3 24):=fun ho=>by rw[gW ho];rfl
 have Al:∀{h':AH}{cs:List AV},Fr h h' (fun _=>False)->Fr h (h'.put v 0 cs) fun _=>False:=fun hf=>hf.put (.inr (by omega))
 rw[er]
 refine⟨TW TP n0 h2,fun id hs _=>Wv id hs.1,Sf rs.length (a:=0) (deep:=0) (own:=none) (bk:=oR) (ids:=[]) pa AU Wy.i rfl (by omega) (by omega) (fun _ h=>h) ?_ ?_⟩
 ·intro pl e h3 hl hp f3
  rw[oe]at hl
  obtain⟨cs,hp,c8⟩:=hp
  have fD:=PD bY f3
  have rp:h3.obj v=some (aI [I 0,I 0,aV] 3 24):=TW.obj f3 EZ rfl
  have h0:(e != 0)=true:=by simpa using C6 _ rfl hl
  have Lr:v≠p:=fun e=>by have:=pa.n.1;omega
  have jR:ef (rs.map (·.1))=⟨0,0,[],pl,e⟩:=by
   unfold ef
   rw[show(⟨[],[],[]⟩:Bk)=oR from rfl,hl]
  simp only[kG.bN,cy,h0,kG.bP,ap,zD,zF,zC,zI,kG.bM]
  refine⟨fun _=>p,fun _ _=>by rw[hp];simp,⟨_,Eh,?_⟩⟩
  simp only[aL,aj,aF,hp,aA,zG,c8,ab,zH,az,rp,ib,cn]
  refine⟨⟨⟨.inr (by omega),fun _ _=>Lr⟩,rfl,rfl,by simp⟩,?_⟩
  simp only[kG.bF]
  exact zero jR (zr rp) (Al fD)
 ·intro bk idl pl h3 hl A4 f3
  rw[oe]at hl
  have yI:=hl
  have fD:=PD bY f3
  have rp:h3.obj v=some (aI [I 0,I 0,aV] 3 24):=TW.obj f3 EZ rfl
  have Ki:=rt.be fD
  obtain⟨bf,_,_,XN⟩:=IY hL rs.length (deep:=0) (own:=none) (i:=0) (bk:=oR) (b9:=bk) (by simp) Wy (fun k h=>by cases h) (by rw[<-AQ,oe];exact hl)
  obtain⟨Bo,_,hdk⟩:=XN bk jH.refl bf
  have Bo:=Bo rfl
  rw[<-AQ]at Bo
  have sc:SC bk rs:=⟨bf,fun k d hd=>hdk k (Nat.zero_le _) (zM.1 hd).1 d hd,hn⟩
  have we:PX n0 h3 p xr bk ([]++idl) qm bm gm [] pl aV aV:=⟨⟨A4.n.1,(fun _ _ _ e=>by cases e),(fun _ _ _ e=>by cases e)⟩,A4.p,A4.m,.nil,⟨[],.nil,rfl,(fun _ h=>by cases h)⟩,by simp⟩
  have ol:((0:Int) != 0)=false:=rfl
  simp only[kG.bN,cy,ol,kG.bP,ap,zE,zD,zC,zH,kG.br,Ki.r.len.1,Ki.r.len.2]
  refine⟨[B false,U 0,U 0],rfl,?_⟩
  rw[er]
  refine⟨TW TQ n0 h3,fun id hs _=>Wv id hs.1,X4 sc rs.length h3 _ _ 0 ⟨false,0,0⟩ pl aV aV [] we Ki (by simp) Bo (fun _ h=>h) ?_ ?_⟩
  ·intro e h4 hd hp f4
   rw[oe]at hd
   obtain⟨_,_,_,tv⟩:=hp
   have jT:=PD fD f4
   have yk:h4.obj v=some (aI [I 0,I 0,aV] 3 24):=TW.obj f4 rp rfl
   have Lr:v≠p:=fun e=>by have:=pa.n.1;omega
   have jR:ef (rs.map (·.1))=⟨0,0,[],e,115⟩:=by
    unfold ef
    rw[show(⟨[],[],[]⟩:Bk)=oR from rfl,hl]
    simp only[hd]
   simp only[d_,zT,kG.ba,ap,zD,zF,zC,zI,kG.bc]
   refine⟨fun _=>p,fun _ _=>by rw[tv.p];simp,⟨_,Eh,?_⟩⟩
   simp only[aL,aj,aF,tv.p,aA,zG,zA,zB,ab,zH,az,yk,ib,cn]
   refine⟨⟨⟨.inr (by omega),fun _ _=>Lr⟩,rfl,rfl,by simp⟩,?_⟩
   simp only[kG.aZ]
   exact zero jR (zr yk) (Al jT)
  ·intro l gL xp xo h4 hd tv f4
   rw[oe]at hd
   have jT:=PD fD f4
   have yk:h4.obj v=some (aI [I 0,I 0,aV] 3 24):=TW.obj f4 rp rfl
   have lg:LG l:=Wm hL _ ⟨⟨by decide,by decide⟩,⟨by decide,by decide⟩⟩ rfl (fun _ h=>h) hd (fun _ h=>by cases h)
   obtain⟨yl,o1,o2,o3⟩:=tv.o
   have Ve:lZ h4 xo yl:=⟨o1.gy,fun y hy=>(o3 y hy).1⟩
   have Qq:∀y∈yl,OG y.1:=fun y hy=>by
    have:y.1∈l.map (·.1):=by rw[<-o2];exact List.mem_map_of_mem hy
    obtain⟨x,hx,e⟩:=List.mem_map.1 this
    rw[<-e];exact lg x hx
   have HL:yl.length<=4096:=by
    have:=congrArg List.length o2
    have:=tv.len
    simp only[zZ]at *;omega
   simp only[d_,zS,kG.ba,ap,zE,zD,zC,zH,kG.n9,aL,aj,nX,tv.p,mg,zG,List.drop_succ_cons,List.drop_zero,List.take_succ_cons,List.take_zero]
   refine⟨by simp,?_⟩
   refine⟨fun _=>False,fun _ h=>h.elim,Gp Ve (fun y hy=>zR (Qq y hy).1 (by decide)) fun h5 f5=>?_⟩
   rw[o2]
   have oq:=jT.bQ f5
   have rZ:=tv.be f5
   have wu:=f5.bI yk
   have Jk:=Ve.be f5
   have jR:ef (rs.map (·.1))=if (eR (aU bk.qs) (aU bk.bs) (l.map (·.1))).2≠0 then⟨0,0,[],(match l[(eR (aU bk.qs) (aU bk.bs) (l.map (·.1))).1.toNat]? with |some x=>x.2 |none=>0),(eR (aU bk.qs) (aU bk.bs) (l.map (·.1))).2⟩ else⟨aU bk.qs,aU bk.bs,l.map (·.1),0,0⟩:=by
    conv=>lhs;unfold ef
    rw[show(⟨[],[],[]⟩:Bk)=oR from rfl,hl]
    simp only[hd]
    all_goals rfl
   have Vk:=Mq (q:=aU bk.qs) (b:=aU bk.bs) (l:=l.map (·.1))
   generalize eR (aU bk.qs) (aU bk.bs) (l.map (·.1))=c at *
   obtain⟨c1,c2⟩:=c
   simp only at jR Vk
   simp only[uf,c9,zA,zB,ab,kG.n8,cy]
   by_cases k1:c2=0
   ·rw[zW (by simpa using k1)]at jR
    have iw:(c2 != 0)=false:=by simp[k1]
    simp only[iw,kG.n7,ap,zE,zD,zC,zH,kG.n1,aL,aj,nX,rZ.p,mg,zG,List.drop_succ_cons,List.drop_zero,List.take_succ_cons,List.take_zero]
    refine⟨by simp,?_⟩
    simp only[az,wu,ib,cn]
    have hx:=Jk.dQ.one.1
    refine⟨⟨.inr (by omega),by show(true&&(true&&(cF xo&&true)))=true;rw[hx];rfl,rfl,by simp⟩,?_⟩
    have:=fin (h':=h5.put v 0 [I (aU bk.qs),I (aU bk.bs),xo]) (xo:=xo) (yl:=yl)
    rw[jR]at this
    have fv:Fr h5 (h5.put v 0 [I (aU bk.qs),I (aU bk.bs),xo]) (·=v):=Fr.refl.put (.inl rfl)
    refine this (zr wu) ⟨⟨Jk.dQ.fr fv fun id o ho ht e=>?_,fun y hy=>(Jk.qs y hy).fr fv fun id o ho ht e=>?_⟩,o2,Qq,HL⟩ (Al oq)
    ·subst e;rw[wu]at ho;cases ho;exact absurd (ht rfl) (show(24:Nat)≠38 by decide)
    ·subst e;rw[wu]at ho;cases ho;exact absurd (ht rfl) (show(24:Nat)≠3 by decide)
   ·rw[zX k1]at jR
    have iw:(c2 != 0)=true:=by simpa using k1
    simp only[iw,kG.n7,ap,zD,zF,zC,zI,kG.n6,aL,aj,aF,rZ.p,aA,zG,zA,zB,ab,rZ.x.gy.len.1,rZ.x.gy.len.2,zH,zZ,bu]
    by_cases k2:c1<l.length
    ·obtain⟨x,hx⟩:∃x,l[c1.toNat]?=some x:=⟨l[c1.toNat]'(by omega),zJ _⟩
     rw[hx]at jR
     simp only[zL k2,kG.n5,ap,zD,zF,zC,zI,kG.n4]
     rcases rZ.x with⟨_,e0⟩ |⟨ix,rfl,Vd⟩
     ·have:l=[]:=by simpa using e0
      subst this
      simp at k2;omega
     ·have Lr:v≠p:=fun e=>by have:=pa.n.1;omega
      have hvx:v≠ix:=bG wu Vd (show(24:Nat)≠3 by decide)
      have uD:((l.map (·.2)).flatMap dx)[c1.toNat]?=some (I x.2):=by
       have:=fS (f:=dx) (k:=1) iR (l.map (·.2)) c1.toNat 0 (by omega)
       rw[Nat.mul_one,Nat.add_zero,List.getElem?_map,hx]at this
       exact this
      refine⟨fun i=>if i=4 then p else ix,fun i _=>by show h5.obj (if i=4 then p else ix)≠none;split<;>simp[rZ.p,Vd],⟨_,Eh,?_⟩⟩
      simp only[aL,aj,aF,rZ.p,aA,zG,zA,zB,ab,zV,zH,o_,Vd,Nat.mul_one,uD,zZ]
      refine⟨⟨by omega,by omega⟩,by simp,?_⟩
      simp only[az,wu,ib,cn]
      refine⟨⟨⟨.inr (by omega),fun i _=>by show v≠(if i=4 then p else ix);split;exact Lr;exact hvx⟩,rfl,rfl,by simp⟩,?_⟩
      simp only[kG.n3]
      exact zero jR (zr wu) (Al oq)
    ·have hx:l[c1.toNat]?=none:=List.getElem?_eq_none (by omega)
     rw[hx]at jR
     simp only[zK k2,kG.n5,ap,zE,zD,zC,zH,kG.n2]
     refine⟨_,Eh,?_⟩
     simp only[az,wu,ib,cn]
     refine⟨⟨.inr (by omega),rfl,rfl,by simp⟩,?_⟩
     exact zero jR (zr wu) (Al oq)
end
end
section
open Go.Ab
attribute [-simp] aH az
section
variable {h:AH} {M:Nat->Prop} {R:AE->AH->Prop}
theorem G0{x z:AV}{l:List Int}(hx:cb dx 1 3 h x l)(hz:cb dx 1 3 h z l)(hl:l.length<=100000000)(hR:R (.ret (B true)) h):aB Pg 21 [x,z] h M R:=by
 apply rU.aO
 simp only[rU.br,rU.ba,hx.len.1,hx.len.2,hz.len.1,hz.len.2,zH,cy]
 have e0:((l.length:Int) != (l.length:Int))=false:=by simp
 simp only[e0,rU.bc,ap,zE,zD,zC,zH,rU.n9]
 unfold rU.n8
 refine cJ (ι:=Nat) (fun i v h'=>v=[x,z,I i]/\i<=l.length/\h'=h) (fun i=>l.length-i) 0 ⟨rfl,by omega,rfl⟩ ?_
 rintro K i v h' ⟨rfl,hi,rfl⟩ step
 simp only[rU.cT,zN,zO,rU.n7,hx.len.1,hx.len.2,zH,bu]
 by_cases aJ:i<l.length
 ·have dZ:(i:Int)<l.length:=by omega
  have g1:l[i]?=some l[i]:=zJ aJ
  have w1:IntKind.i64.wrap ((i:Int)+1)=((i+1:Nat):Int):=by rw[aX (by omega) (by omega)];simp
  generalize l[i]=a at *
  simp only[zL dZ,rU.n6,ap,zD,zF,zC,zI,rU.n5]
  refine ma hx iR g1 rfl fun _=>?_
  refine ma hz iR g1 rfl fun _=>?_
  have e1:(a != a)=false:=by simp
  simp only[cy,e1,rU.n4,ap,zE,zD,zC,zH,rU.n2,bg,w1]
  exact step (i+1) _ _ (by omega) ⟨rfl,by omega,rfl⟩
 ·have eG:¬(i:Int)<l.length:=by omega
  simp only[zK eG,rU.n6,ap,zE,zD,zC,zH,zV,rU.n1]
  simpa using hR
theorem acr{t:TypeId}{c:Bool}{x y:Bool}{K:AV->Prop}(hb:nE Pg t=true):ag Pg .neq t c (B x) (B y) K=K (B (!(x==y))):=by simp[ag,hb]
theorem X5:nE Pg 4=true:=by kernel_rfl
theorem RG{α:Type}{f:α->List AV}{sz:Nat}{ty:TypeId}{x:AV}{l:List α}{i:Nat}{y:α}{K:AV->Nat->Prop}(hl:cb f sz ty h x l)(hf:∀y,(f y).length=sz)(hi:l[i]?=some y)(hK:∀id,x=.sl id 0 l.length->K (.agg (f y)) id) :
  cj (some (sz,none)) x (.sc (.int .i64 i)) fun t=>al (some true) (some sz) t h K:=by
 have aJ:i<l.length:=(zM.1 hi).1
 obtain⟨id,cells,ro,mv,rfl,ho,h1,h2,_⟩:=hl.at_ hf hi
 simp only[o_,nX,ho,mg,zG,zY]
 refine⟨⟨by omega,by omega⟩,h2,?_⟩
 rw[h1];exact hK _ rfl
theorem Kh{q b:Int}{xa xb:AV}{ya yb:List (bq×AV)}(ha:lZ h xa ya)(hb:lZ h xb yb)(he:ya.map (·.1)=yb.map (·.1))(hn:ya.length<=4096)(hg:∀y∈ya,OG y.1)
  (hR:∀h',Fr h h' (fun _=>False)->R (.ret (B true)) h'):aB Pg 9 [.agg [I q,I b,xa],.agg [I q,I b,xb]] h M R:=by
 apply F9.aO
 have hlen:ya.length=yb.length:=by have:=congrArg List.length he;simpa using this
 have hxa:=ha.dQ.one
 have hxb:=hb.dQ.one
 unfold F9.dG
 refine dF (cs:=[I q,I b,xa]) (by show(true&&(true&&(cF xa&&true)))=true;rw[hxa.1];rfl) fun va h1 f1 _ oa=>?_
 refine dF (cs:=[I q,I b,xb]) (by show(true&&(true&&(cF xb&&true)))=true;rw[hxb.1];rfl) fun vb h2 f2 hvb ob=>?_
 have HB:=f2.bI oa
 have bY:=f1.bQ f2
 have ln:=ha.be bY
 have yL:=hb.be bY
 have e1:(q != q)=false:=by simp
 have e2:(b != b)=false:=by simp
 have e3:((ya.length:Int) != (yb.length:Int))=false:=by rw[hlen];simp
 simp only[F9.cU,aj,aF,HB,ob,aA,zG,zA,zB,ab,cy,e1,F9.cX,dW,zT,zE,zD,zC,zI,e2,F9.cV,c_,if_false,F9.cE,ln.dQ.len.1,ln.dQ.len.2,yL.dQ.len.1,yL.dQ.len.2,zH,e3,F9.cG,F9.cN,ap,F9.cq]
 unfold F9.cl
 refine cJ (ι:=Nat) (fun i v h'=>v=[.ptr va 0,.ptr vb 0,I i]/\i<=ya.length/\Fr h2 h' (fun _=>False)) (fun i=>ya.length-i) 0 ⟨rfl,by omega,Fr.refl⟩ ?_
 rintro K i v h' ⟨rfl,hi,f3⟩ step
 have YU:=f3.bI HB
 have Ul:=f3.bI ob
 have Du:=ln.be f3
 have VP:=yL.be f3
 simp only[F9.cT,zN,zO,F9.bX,aj,aF,YU,aA,zG,zA,zB,ab,Du.dQ.len.1,Du.dQ.len.2,zH,bu]
 by_cases aJ:i<ya.length
 ·have dZ:(i:Int)<ya.length:=by omega
  have Vo:i<yb.length:=by omega
  have g1:ya[i]?=some ya[i]:=zJ aJ
  have g2:yb[i]?=some yb[i]:=zJ Vo
  have iA:ya[i].1=yb[i].1:=by
   have:=congrArg (fun l:List bq=>l[i]?) he
   simp only[List.getElem?_map,g1,g2,yB]at this
   exact Option.some.inj this
  have oL:=Du.qs _ (List.getElem_mem aJ)
  have Zh:=VP.qs _ (List.getElem_mem Vo)
  have Qq:=hg _ (List.getElem_mem aJ)
  generalize ya[i]=y at *
  generalize yb[i]=z at *
  obtain⟨o,x1⟩:=y
  obtain⟨o',x2⟩:=z
  simp only at iA
  subst iA
  have w1:IntKind.i64.wrap ((i:Int)+1)=((i+1:Nat):Int):=by rw[aX (by omega) (by omega)];simp
  simp only[zL dZ,F9.bT,ap,zD,zF,zC,zI,F9.bW]
  obtain⟨HJ,exb,Uj⟩:∃HJ,xb=.sl HJ 0 yb.length/\h'.obj HJ≠none:=by
   obtain⟨id,cells,ro,mv,h1,h2,_⟩:=VP.dQ.at_ fg g2
   exact⟨id,h1,by rw[h2];simp⟩
  have follow:∀vx vy h4,Fr h' h4 (fun _=>False)->h4.obj vx=some (aI (cK (o,x1)) 7 38)->h4.obj vy=some (aI (cK (o,x2)) 7 38)->F9.bN (fun id=>M id\/h.next<=id) (aK Pg [.tmp 4] R) K (fun(i:Nat) (vs:List AV) (h:AH)=>if i=0 then F9.n1 (fun id=>M id\/h.next<=id) (aK Pg [.tmp 4] R) (aK Pg [.tmp 4] R) (fun _ _ _=>False) (fun v h=>R (.b6 v) h) h else False) (fun v h=>R (.b6 v) h) (.ptr va 0) (.ptr vb 0) (I i) (.ptr vx 0) (.ptr vy 0) h4:=fun vx vy h4 f4 ox oy=>by
   have c1:(o.kind != o.kind)=false:=by simp
   have c2:(!decide (o.name=o.name))=false:=by simp
   have c3:(o.bit != o.bit)=false:=by simp
   have c4:(!(o.cond==o.cond))=false:=by simp
   have c5:(o.cR != o.cR)=false:=by simp
   have c6:(o.value != o.value)=false:=by simp
   have aax:∀{t:TypeId}{c:Bool}{a b:ByteArray}{K:AV->Prop},ag Pg .neq t c (Sb a) (Sb b) K=K (B (!decide (a=b))):=fun{t c a b K}=>rfl
   simp only[F9.bN,aj,aF,ox,oy,aA,zG,cK,zA,zB,ab,cy,c1,F9.bP,dW,zT,zE,zD,zC,zI,aax,decide_true,zS,F9.bM,c_,if_false,F9.bF]
   refine⟨fun _=>False,fun _ h=>h.elim,G0 (oL.be f4) (Zh.be f4) Qq.1 ?_⟩
   simp only[d_,zS,F9.br,c_,zE,if_false,F9.ba,dW,zT,zD,zC,zI,aj,aF,ox,oy,aA,zG,cK,zA,zB,ab,cy,c3,F9.bc,F9.aZ,acr X5,c4,F9.n9,F9.n8,wm,c5,F9.n7,F9.n6,c6,F9.n5,F9.n4,ap,zH,F9.n2,bg,w1]
   exact step (i+1) _ h4 (by omega) ⟨rfl,by omega,f3.bQ f4⟩
  refine⟨fun i=>if i=6 then vb else HJ,fun i _=>by show h'.obj (if i=6 then vb else HJ)≠none;split;rw[Ul];simp;exact Uj,?_⟩
  simp only[aj,aF,YU,Ul,aA,zG,zA,zB,ab]
  refine nT Du.dQ fg g1 fun _=>?_
  refine⟨by simp,?_⟩
  refine RG VP.dQ fg g2 fun id hid=>?_
  have eid:id=HJ:=by rw[exb]at hid;cases hid;rfl
  subst eid
  refine⟨by simp,?_⟩
  have acI:=h'.lt _ _ Ul
  have acM:id<h'.next:=by
   rcases ho:h'.obj id with _ |p
   ·exact absurd ho Uj
   ·exact h'.lt _ _ ho
  have nx:h.next<=h'.next:=zR bY.next f3.next
  have z7:([Value.int .i64 0,.string ⟨#[]⟩,.slice none 0 0,.int .i64 0,.bool false,.int .u64 0,.int .u64 0].map AV.sc).length=7:=rfl
  have first:=AH.cg h' (aI ([Value.int .i64 0,.string ⟨#[]⟩,.slice none 0 0,.int .i64 0,.bool false,.int .u64 0,.int .u64 0].map AV.sc) 7 38)
  have fa:Fr h' (h'.alloc (aI ([Value.int .i64 0,.string ⟨#[]⟩,.slice none 0 0,.int .i64 0,.bool false,.int .u64 0,.int .u64 0].map AV.sc) 7 38)) (fun _=>False):=Fr.refl.alloc _
  have Ui:=lS (y:=(o,x1)) oL.one.1
  have Uh:=lS (y:=(o,x2)) Zh.one.1
  have IP:∀{hh:AH}{v:Nat}{cs:List AV},hh.obj v=some (aI ([Value.int .i64 0,.string ⟨#[]⟩,.slice none 0 0,.int .i64 0,.bool false,.int .u64 0,.int .u64 0].map AV.sc) 7 38)->cs.length=7->(hh.put v 0 cs).obj v=some (aI cs 7 38):=fun{hh v cs} ho hc=>by
   rw[ki ho]
   congr 1
   simp only[aI]
   congr 1
   exact lX (by rw[hc];rfl)
  generalize hh1:h'.alloc (aI ([Value.int .i64 0,.string ⟨#[]⟩,.slice none 0 0,.int .i64 0,.bool false,.int .u64 0,.int .u64 0].map AV.sc) 7 38)=dP at *
  have second:=AH.cg dP (aI ([Value.int .i64 0,.string ⟨#[]⟩,.slice none 0 0,.int .i64 0,.bool false,.int .u64 0,.int .u64 0].map AV.sc) 7 38)
  have fb:Fr dP (dP.alloc (aI ([Value.int .i64 0,.string ⟨#[]⟩,.slice none 0 0,.int .i64 0,.bool false,.int .u64 0,.int .u64 0].map AV.sc) 7 38)) (fun _=>False):=Fr.refl.alloc _
  have F0:=fb.bI first
  have n01:h'.next<dP.next:=dP.lt _ _ first
  simp only[aH,hh1]
  generalize dP.alloc (aI ([Value.int .i64 0,.string ⟨#[]⟩,.slice none 0 0,.int .i64 0,.bool false,.int .u64 0,.int .u64 0].map AV.sc) 7 38)=eB at *
  have ZU:=fa.bQ fb
  refine⟨⟨rfl,rfl,?_⟩,rfl,rfl,?_⟩
  ·simp only[az,F0,ib,cn]
   refine⟨⟨⟨.inr nx,fun i _=>by show h'.next≠(if i=6 then vb else id);split<;>omega⟩,Ui,rfl,by simp⟩,?_⟩
   have g3:Fr eB (eB.put h'.next 0 (cK (o,x1))) (·=h'.next):=Fr.refl.put (.inl rfl)
   have p3:=IP F0 (fg (o,x1))
   have DG:Fr h' (eB.put h'.next 0 (cK (o,x1))) (fun _=>False):=ZU.put (.inr (zU _))
   generalize eB.put h'.next 0 (cK (o,x1))=oQ at *
   have s3:=g3.obj second (by omega)
   simp only[s3,cn]
   refine⟨⟨.inr (by omega),Uh,rfl,by simp⟩,?_⟩
   have g4:Fr oQ (oQ.put dP.next 0 (cK (o,x2))) (·=dP.next):=Fr.refl.put (.inl rfl)
   exact follow _ _ _ (DG.put (.inr (by omega))) (g4.obj p3 (by omega)) (IP s3 (fg (o,x2)))
  ·simp only[az,second,ib,cn]
   refine⟨⟨⟨.inr (by omega),fun i _=>by show dP.next≠(if i=6 then vb else id);split<;>omega⟩,Ui,rfl,by simp⟩,?_⟩
   have g3:Fr eB (eB.put dP.next 0 (cK (o,x1))) (·=dP.next):=Fr.refl.put (.inl rfl)
   have p3:=IP second (fg (o,x1))
   have DG:Fr h' (eB.put dP.next 0 (cK (o,x1))) (fun _=>False):=ZU.put (.inr (by omega))
   generalize eB.put dP.next 0 (cK (o,x1))=oQ at *
   have s3:=g3.obj F0 (by omega)
   simp only[s3,cn]
   refine⟨⟨.inr nx,Uh,rfl,by simp⟩,?_⟩
   have g4:Fr oQ (oQ.put h'.next 0 (cK (o,x2))) (·=h'.next):=Fr.refl.put (.inl rfl)
   exact follow _ _ _ (DG.put (.inr (zU _))) (g4.obj p3 (by omega)) (IP s3 (fg (o,x2)))
 ·have eG:¬(i:Int)<ya.length:=by omega
  simp only[zK eG,F9.bT,ap,zE,zD,zC,zH,zV,F9.n1]
  simpa using hR h' (bY.bQ f3)
end
end
section
open Go.Ab
attribute [-simp] aH az
abbrev tq:ByteArray:=⟨#[113]⟩
abbrev t1:ByteArray:=⟨#[113,117,98,105,116,115,32,113,32,49,59,32,98,105,116,115,32,99,32,50,59,32,98,105,116,115,32,100,32,49,59,32,109,101,97,115,117,114,101,32,113,91,48,93,32,100,91,48,93,59,32,105,102,32,100,32,49,32,123,32,120,32,113,91,48,93,59,32,125]⟩
abbrev t2:ByteArray:=⟨#[103,97,116,101,32,103,32,120,32,123,32,103,32,120,59,32,125]⟩
abbrev t3:ByteArray:=⟨#[113,117,98,105,116,115,32,113,32,49,59,32,114,101,112,101,97,116,32,53,48,48,48,32,123,32,120,32,113,91,48,93,59,32,125]⟩
abbrev rY:List Row:=[⟨aS,⟨#[113]⟩,[],1,0,0⟩,⟨bz,⟨#[99]⟩,[],2,0,12⟩,⟨bz,⟨#[100]⟩,[],1,0,22⟩,⟨aQ,ByteArray.empty,[⟨⟨#[113]⟩,0⟩,⟨⟨#[100]⟩,0⟩],0,0,32⟩,⟨cz,⟨#[100]⟩,[],1,1,51⟩,⟨bw,⟨#[120]⟩,[⟨⟨#[113]⟩,0⟩],0,0,60⟩]
abbrev jM:List Row:=[⟨aN,⟨#[103]⟩,[⟨⟨#[120]⟩,-1⟩],0,1,0⟩,⟨bw,⟨#[103]⟩,[⟨⟨#[120]⟩,-1⟩],0,0,11⟩]
abbrev nt:List Row:=[⟨aS,⟨#[113]⟩,[],1,0,0⟩,⟨aG,ByteArray.empty,[],5000,1,12⟩,⟨bw,⟨#[120]⟩,[⟨⟨#[113]⟩,0⟩],0,0,26⟩]
theorem T4:kj t1=.ok rY:=by
 rw[<-wh]
 kernel_rfl
theorem T3:kj t2=.ok jM:=by
 rw[<-wh]
 kernel_rfl
theorem T2:kj t3=.ok nt:=by
 rw[<-wh]
 kernel_rfl
theorem EO{f:OL->Except Int OL}{o:bq}{pl:Int}(hf:∀l,f l=jX l o pl):∀(n:Nat)(l:OL),l.length<=4096->4096<l.length+n->hG f n l=.error pl
 |0,l,h1,h2=>by omega
 |n+1,l,h1,h2=>by
  simp only[hG,hf,jX]
  by_cases k:l.length=4096
  ·rw[zX k]
  ·rw[zW k]
   simp only[List.length_append,List.length_singleton]
   rw[zW (by omega)]
   exact EO hf n _ (by simp;omega) (by simp;omega)
end
section
open Go.Ab
def xj:Nat->List dH->List Row->Int->Int
 |0,_,_,n=>n
 |_+1,_,[],n=>n
 |m+1,ds,r::rest,n=>xj m ds (rest.drop r.rows.toNat) (min (n+kC ds r (xj m ds (rest.take r.rows.toNat) 0)) 4097)
theorem xi:∀(m:Nat)(ds:List dH)(rows:List Row)(n:Int),rows.length<=m->xj m ds rows n=countP ds rows n
 |0,ds,rows,n,h=>by
  have:rows=[]:=List.length_eq_zero_iff.1 (by omega)
  subst this
  rw[countP_nil];rfl
 |m+1,ds,[],n,h=>by rw[countP_nil];rfl
 |m+1,ds,r::rest,n,h=>by
  rw[List.length_cons]at h
  rw[countP_cons]
  simp only[xj]
  rw[xi m _ _ _ (by simp only[yA,List.length_drop];omega),xi m _ _ _ (by simp only[yA,List.length_drop];omega)]
def D9:Nat->Nat->Option Nat->Nat->List Row->Bk->Except (Int×Int) Bk
 |0,_,_,_,_,bk=>.ok bk
 |_+1,_,_,_,[],bk=>.ok bk
 |m+1,deep,own,i,r::rest,bk=>
  if im r rest.length deep own.isSome≠0 then .error (r.place,im r rest.length deep own.isSome)
  else match fQ bk own i r with
   |.error e=>.error (r.place,e)
   |.ok qA=>match D9 m (deep+1) (if r.kind=aN then some bk.ds.length else own) (i+1) (rest.take r.rows.toNat) qA with
    |.error e=>.error e
    |.ok ig=>D9 m deep own (i+1+r.rows.toNat) (rest.drop r.rows.toNat) (if r.kind=aN then{ ig with ds:=lJ ig.ds bk.ds.length (xj m ig.ds (rest.take r.rows.toNat) 0) } else ig)
theorem rr:∀(m:Nat)(deep:Nat)(own:Option Nat)(i:Nat)(rows:List Row)(bk:Bk),rows.length<=m->D9 m deep own i rows bk=dN deep own i rows bk
 |0,deep,own,i,rows,bk,h=>by
  have:rows=[]:=List.length_eq_zero_iff.1 (by omega)
  subst this
  rw[jP];rfl
 |m+1,deep,own,i,[],bk,h=>by rw[jP];rfl
 |m+1,deep,own,i,r::rest,bk,h=>by
  rw[List.length_cons]at h
  rw[kQ]
  simp only[D9]
  split
  ·rfl
  ·cases fQ bk own i r with
   |error e=>rfl
   |ok qA=>
    simp only
    rw[rr m _ _ _ _ _ (by rw[yA];omega)]
    cases dN (deep+1) (if r.kind=aN then some bk.ds.length else own) (i+1) (rest.take r.rows.toNat) qA with
    |error e=>rfl
    |ok ig=>
     simp only
     rw[rr m _ _ _ _ _ (by rw[List.length_drop];omega),xi m _ _ _ (by rw[yA];omega)]
def rL (bk : Bk) (L : List Row) : Nat → iE → List Row → OL → Except Int OL
  | 0, _, _, l => .ok l
  | _ + 1, _, [], l => .ok l
  | m + 1, w, r :: rest, l => mm (rL bk L m w (rest.drop r.rows.toNat))
    (if r.kind = aG then hG (rL bk L m w (rest.take r.rows.toNat)) r.num.toNat l
     else if r.kind = cz then (match dC bk.bs r.name with
      | none => .ok l
      | some g => match mJ w g r.num with
        | none => .ok l
        | some w' => rL bk L m w' (rest.take r.rows.toNat) l)
     else qk bk L w r [] l)
theorem BM{bk:Bk}{L:List Row}:∀(m:Nat)(w:iE)(rows:List Row)(l:OL),rows.length<=m->rL bk L m w rows l=fY bk L w rows l
 |0,w,rows,l,h=>by
  have:rows=[]:=List.length_eq_zero_iff.1 (by omega)
  subst this
  rw[qW];rfl
 |m+1,w,[],l,h=>by rw[qW];rfl
 |m+1,w,r::rest,l,h=>by
  rw[List.length_cons]at h
  rw[pt]
  simp only[rL]
  have e1:rL bk L m w (rest.drop r.rows.toNat)=fY bk L w (rest.drop r.rows.toNat):=funext fun l=>BM m w _ l (by rw[List.length_drop];omega)
  have e2:∀w',rL bk L m w' (rest.take r.rows.toNat)=fY bk L w' (rest.take r.rows.toNat):=fun w'=>funext fun l=>BM m w' _ l (by rw[yA];omega)
  rw[e1,e2]
  congr 1
  unfold qk
  by_cases k1:r.kind=aG
  ·rw[zX k1,zX k1]
  ·by_cases k2:r.kind=cz
   ·simp only[zW k1,zX k2]
    cases dC bk.bs r.name with
    |none=>rfl
    |some g=>
     simp only
     cases mJ w g r.num with
     |none=>rfl
     |some w'=>simp only;rw[e2]
   ·simp only[zW k1,zW k2]
theorem Xu:∃bk,dN 0 none 0 rY oR=.ok bk/\aU bk.qs=1/\aU bk.bs=3/\fY bk rY ⟨false,0,0⟩ rY []=.ok [(⟨2,ByteArray.empty,[0],2,false,0,0⟩,32),(⟨1,⟨#[120]⟩,[0],0,true,4,4⟩,60)]:=by
 refine⟨⟨[⟨⟨#[113]⟩,0,1⟩],[⟨⟨#[99]⟩,0,2⟩,⟨⟨#[100]⟩,2,1⟩],[]⟩,?_,by decide,by decide,?_⟩
 ·rw[<-rr 6 _ _ _ _ _ (by decide)]
  kernel_rfl
 ·rw[<-BM 6 _ _ _ (by decide)]
  kernel_rfl
theorem XY:ef rY=⟨1,3,[⟨2,ByteArray.empty,[0],2,false,0,0⟩,⟨1,⟨#[120]⟩,[0],0,true,4,4⟩],0,0⟩:=by
 obtain⟨bk,h1,h2,h3,h4⟩:=Xu
 unfold ef
 rw[show(⟨[],[],[]⟩:Bk)=oR from rfl,h1]
 simp only[h4,h2,h3,List.map_cons,List.map_nil]
 have hc:eR 1 3 [⟨2,ByteArray.empty,[0],2,false,0,0⟩,⟨1,⟨#[120]⟩,[0],0,true,4,4⟩]=(0,0):=by kernel_rfl
 rw[hc]
 rfl
theorem XX:ef jM=⟨0,0,[],11,114⟩:=by
 have h1:dN 0 none 0 jM oR=.error (11,114):=by
  rw[<-rr 6 _ _ _ _ _ (by decide)]
  kernel_rfl
 unfold ef
 rw[show(⟨[],[],[]⟩:Bk)=oR from rfl,h1]
theorem XW:ef nt=⟨0,0,[],26,115⟩:=by
 have h1:dN 0 none 0 nt oR=.ok ⟨[⟨⟨#[113]⟩,0,1⟩],[],[]⟩:=by
  rw[<-rr 6 _ _ _ _ _ (by decide)]
  kernel_rfl
 have h2:fY ⟨[⟨⟨#[113]⟩,0,1⟩],[],[]⟩ nt ⟨false,0,0⟩ nt []=.error 26:=by
  have hf:∀l,rL ⟨[⟨⟨#[113]⟩,0,1⟩],[],[]⟩ nt 1 ⟨false,0,0⟩ [⟨bw,⟨#[120]⟩,[⟨⟨#[113]⟩,0⟩],0,0,26⟩] l=jX l ⟨1,⟨#[120]⟩,[0],0,false,0,0⟩ 26:=fun l=>by
   have e:rL ⟨[⟨⟨#[113]⟩,0,1⟩],[],[]⟩ nt 1 ⟨false,0,0⟩ [⟨bw,⟨#[120]⟩,[⟨⟨#[113]⟩,0⟩],0,0,26⟩] l=mm (fun l=>.ok l) (jX l ⟨1,⟨#[120]⟩,[0],0,false,0,0⟩ 26):=by kernel_rfl
   rw[e]
   cases jX l ⟨1,⟨#[120]⟩,[0],0,false,0,0⟩ 26<;>rfl
  have hr:=EO hf 5000 [] (by decide) (by decide)
  rw[<-BM 3 _ _ _ (by decide)]
  have e3:rL ⟨[⟨⟨#[113]⟩,0,1⟩],[],[]⟩ nt 3 ⟨false,0,0⟩ nt []=mm (rL ⟨[⟨⟨#[113]⟩,0,1⟩],[],[]⟩ nt 1 ⟨false,0,0⟩ []) (hG (rL ⟨[⟨⟨#[113]⟩,0,1⟩],[],[]⟩ nt 1 ⟨false,0,0⟩ [⟨bw,⟨#[120]⟩,[⟨⟨#[113]⟩,0⟩],0,0,26⟩]) 5000 []):=by
   have h1:rL ⟨[⟨⟨#[113]⟩,0,1⟩],[],[]⟩ nt 3 ⟨false,0,0⟩ nt []=rL ⟨[⟨⟨#[113]⟩,0,1⟩],[],[]⟩ nt 2 ⟨false,0,0⟩ [⟨aG,ByteArray.empty,[],5000,1,12⟩,⟨bw,⟨#[120]⟩,[⟨⟨#[113]⟩,0⟩],0,0,26⟩] []:=rfl
   rw[h1]
   conv=>lhs;unfold rL
   rw[zX rfl]
   rfl
  rw[e3,hr]
  rfl
 unfold ef
 rw[show(⟨[],[],[]⟩:Bk)=oR from rfl,h1]
 simp only[h2]
end
section
open Go.Ab
attribute [-simp] aH az
theorem W1{h:AH}{R:AE->AH->Prop}{v:Nat}{q b:Int}{xo:AV}{a e:Int}(ho:h.obj v=some (aI [I q,I b,xo] 3 24))(hR:R (.ret (.cP [.agg [I q,I b,xo],I a,I e])) h):aK Pg [.cell 2 24,.tmp 3,.tmp 4] R [.ptr v 0,I a,I e] h:=Iz ho hR
def Small(rows:List Row):Prop:=rows.length<=100000000/\∀r∈rows,r.args.length<=100000000/\r.num<=9223372036854775807
theorem eS.rt{h:AH}{x:AV}{rows:List Row}(a:eS h x rows)(s:Small rows):∃rs,RT h x rs/\rs.map (·.1)=rows/\∀y∈rs,y.1.num<=9223372036854775807:=by
 obtain⟨l,h1,h2,h3⟩:=a
 have hm:∀y∈l,y.1∈rows:=fun y hy=>by rw[<-h2];exact List.mem_map_of_mem hy
 refine⟨l,⟨h1.gy,fun y hy=>⟨(h3 y hy).gy,(s.2 _ (hm y hy)).1⟩,?_⟩,h2,fun y hy=>(s.2 _ (hm y hy)).2⟩
 have:=congrArg List.length h2
 have:=s.1
 simp only[zZ]at *;omega
section
variable {h:AH} {M:Nat->Prop} {R:AE->AH->Prop}
theorem xK{s:ByteArray}{rows:List Row}(hp:kj s=.ok rows)(hs:Small rows)(hR:∀xo yl h',JQ h' (ef rows) xo yl->Fr h h' (fun _=>False)->R (.ret (.cP [.agg [I (ef rows).q,I (ef rows).b,xo],I (ef rows).at_,I (ef rows).err])) h'):aB Pg 8 [Sb s] h M R:=by
 apply F8.aO
 unfold F8.n6
 have hv:=AH.cg h (aI ([Value.int .i64 0,.int .i64 0,.slice none 0 0].map AV.sc) 3 24)
 rw[aH]
 refine⟨rfl,?_⟩
 have f1:Fr h (h.alloc (aI ([Value.int .i64 0,.int .i64 0,.slice none 0 0].map AV.sc) 3 24)) (fun _=>False):=Fr.refl.alloc _
 generalize h.alloc (aI ([Value.int .i64 0,.int .i64 0,.slice none 0 0].map AV.sc) 3 24)=h1 at *
 obtain⟨v,rA⟩:∃v,v=h.next:=⟨_,rfl⟩
 rw[<-rA]at hv ⊢
 have ov:h1.obj v=some (aI [I 0,I 0,aV] 3 24):=hv
 have zr:∀{h':AH}{x y z:AV},h'.obj v=some (aI [I 0,I 0,aV] 3 24)->(h'.put v 0 [x,y,z]).obj v=some (aI [x,y,z] 3 24):=fun ho=>by rw[gW ho];rfl
 have Al:∀{h':AH}{cs:List AV},Fr h h' (fun _=>False)->Fr h (h'.put v 0 cs) fun _=>False:=fun hf=>hf.put (.inr (by omega))
 unfold F8.n5
 refine⟨fun _=>False,fun _ h=>h.elim,Nr ?_⟩
 unfold GP
 rw[hp]
 ·intro x h2 hx _ f2
  have bY:=f1.bQ f2
  have EZ:=f2.bI ov
  obtain⟨rs,rt,da,qo⟩:=hx.rt hs
  have ol:((0:Int) != 0)=false:=rfl
  simp only[c9,zA,zB,ab,F8.n4,cy,ol,F8.n3,ap,zE,zD,zC,zH,F8.n1]
  refine⟨fun _=>False,fun _ h=>h.elim,Sw rt qo fun xo yl h3 hf f3=>?_⟩
  rw[da]at hf ⊢
  have rp:=f3.bI EZ
  have UY:=hf.o.dQ.one
  simp only[c9,zA,zB,ab,az,rp,ib,cn]
  refine⟨⟨.inr (by omega),by show(true&&(true&&(cF xo&&true)))=true;rw[UY.1];rfl,rfl,by simp⟩,?_⟩
  have fv:Fr h3 (h3.put v 0 [I (ef rows).q,I (ef rows).b,xo]) (·=v):=Fr.refl.put (.inl rfl)
  refine W1 (zr rp) (hR xo yl _ ⟨⟨hf.o.dQ.fr fv fun id o ho ht e=>?_,fun y hy=>(hf.o.qs y hy).fr fv fun id o ho ht e=>?_⟩,hf.e,hf.g,hf.n⟩ (Al (bY.bQ f3)))
  ·subst e;rw[rp]at ho;cases ho;exact absurd (ht rfl) (show(24:Nat)≠38 by decide)
  ·subst e;rw[rp]at ho;cases ho;exact absurd (ht rfl) (show(24:Nat)≠3 by decide)
theorem TF:Small rY:=⟨by decide,by decide⟩
theorem TE:Small jM:=⟨by decide,by decide⟩
theorem TD:Small nt:=⟨by decide,by decide⟩
theorem O0(hR:∀h',Fr h h' (fun _=>False)->R (.ret (B true)) h'):aB Pg 5 [] h M R:=by
 apply F5.aO
 unfold F5.fq F5.ea
 refine⟨fun _=>False,fun _ h=>h.elim,xK T4 TF fun u_ Yz h1 Mb f1=>?_⟩
 rw[XY]at Mb ⊢
 have aaM:=Mb.o.dQ.one
 simp only[c9,zA,zB,ab]
 refine fV (cs:=[I 1,I 3,u_]) (by show(true&&(true&&(cF u_&&true)))=true;rw[aaM.1];rfl) rfl rfl rfl (fun id hid=>.inr (zR f1.next hid)) fun v1 h2 f2 _ o1=>?_
 have bY:=f1.bQ f2
 unfold F5.dV
 refine⟨fun _=>False,fun _ h=>h.elim,xK T3 TE fun nM yl2 h3 ZW f3=>?_⟩
 rw[XX]at ZW ⊢
 have aaL:=ZW.o.dQ.one
 have fD:=bY.bQ f3
 simp only[c9,zA,zB,ab]
 refine fV (cs:=[I 0,I 0,nM]) (by show(true&&(true&&(cF nM&&true)))=true;rw[aaL.1];rfl) rfl rfl rfl (fun id hid=>.inr (zR fD.next hid)) fun v2 h4 f4 _ o2=>?_
 have jT:=fD.bQ f4
 unfold F5.dG
 refine⟨fun _=>False,fun _ h=>h.elim,xK T2 TD fun YA yl3 h5 ZV f5=>?_⟩
 rw[XW]at ZV ⊢
 have aaK:=ZV.o.dQ.one
 have oq:=jT.bQ f5
 simp only[c9,zA,zB,ab]
 refine fV (cs:=[I 0,I 0,YA]) (by show(true&&(true&&(cF YA&&true)))=true;rw[aaK.1];rfl) rfl rfl rfl (fun id hid=>.inr (zR oq.next hid)) fun v3 h6 f6 _ o3=>?_
 have DH:=oq.bQ f6
 have f26:=((f3.bQ f4).bQ f5).bQ f6
 have PT:=f26.bI o1
 have fo:=Mb.o.be (f2.bQ f26)
 obtain⟨ya,yb,hy⟩:∃ya yb,Yz=[ya,yb]:=by
  have:=congrArg List.length Mb.e
  simp only[zZ,List.length_cons,List.length_nil]at this
  match Yz,this with
  |[a,b],_=>exact⟨a,b,rfl⟩
 subst hy
 have he:=Mb.e
 simp only[List.map_cons,List.map_nil,List.cons.injEq,zI]at he
 obtain⟨hea,VA⟩:=he
 have ha:fo.dQ=fo.dQ:=rfl
 have fin:=hR h6 DH
 have ga:([ya,yb]:List (bq×AV))[0]?=some ya:=rfl
 have gb:([ya,yb]:List (bq×AV))[1]?=some yb:=rfl
 simp only[F5.cU,F5.cX,dW,zT,zE,zD,zC,zI,cy,show((0:Int) != 0)=false from rfl,F5.cV,c_,if_false,F5.cE,F5.cG,F5.cN,show((114:Int) != 114)=false from rfl,F5.cL,F5.cq,show((11:Int) != 11)=false from rfl,F5.cl,F5.bX,show((115:Int) != 115)=false from rfl,F5.bT,F5.bW,show((26:Int) != 26)=false from rfl,F5.bN,F5.bP,ap,zH,F5.bF,aj,aF,PT,aA,zG,zA,zB,ab,eO,show((1:Int)==1)=true from rfl,F5.br,zS,zF,show((3:Int)==3)=true from rfl,F5.ba,zV,F5.bc,fo.dQ.len.1,fo.dQ.len.2,List.length_cons,List.length_nil,show(((0+1+1:Nat):Int)==2)=true from rfl,F5.aZ,F5.n9]
 refine jI (i:=0) (k:=3) fo.dQ fg ga (by omega) rfl fun _=>?_
 rw[hea]
 simp only[eO,show((2:Int)==2)=true from rfl,F5.n8,c_,zV,F5.n7,dW,zS,zD,zF,zC,zI,aj,aF,PT,aA,zG,zA,zB,ab]
 refine jI (i:=1) (k:=4) fo.dQ fg gb (by omega) rfl fun _=>?_
 rw[VA]
 have V8:∀{t:TypeId}{c:Bool}{x y:Int}{K:AV->Prop},ag Pg .eql t c (U x) (U y) K=K (B (x==y)):=fun{t c x y K}=>by simp[ag]
 simp only[F5.n6,c_,zV,F5.n5,dW,zS,zD,zF,zC,zI,aj,aF,PT,aA,zG,zA,zB,ab]
 refine jI (i:=1) (k:=5) fo.dQ fg gb (by omega) rfl fun _=>?_
 rw[VA]
 simp only[V8,show((4:Int)==4)=true from rfl,F5.n4,c_,zV,F5.n3,dW,zS,zD,zF,zC,zI,aj,aF,PT,aA,zG,zA,zB,ab]
 refine jI (i:=1) (k:=6) fo.dQ fg gb (by omega) rfl fun _=>?_
 rw[VA]
 simp only[V8,show((4:Int)==4)=true from rfl,F5.n2,c_,zV,F5.n1]
 simpa using fin
end
end
end Go.Proofs.YtjehibknlmehmaaGreatDoor
