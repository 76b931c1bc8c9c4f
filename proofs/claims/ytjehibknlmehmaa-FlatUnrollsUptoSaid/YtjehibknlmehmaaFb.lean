/- What is looked at is good; flat writes out what the plain form says. No condition. -/
import Derived.Test.YtjehibknlmehmaaFa
set_option maxRecDepth 100000
namespace Go.Proofs.Ytjehibknlmehmaa
section
open Go.Ab
structure Mono (a b:Bk):Prop where
 q:∃l,b.qs=a.qs++l
 bb:∃l,b.bs=a.bs++l
 d:Ext a b
theorem Mono.refl{a:Bk}:Mono a a:=⟨⟨[],by simp⟩,⟨[],by simp⟩,Ext.refl⟩
theorem Mono.trans{a b c:Bk}(h1:Mono a b)(h2:Mono b c):Mono a c:=by
 obtain⟨⟨q1,e1⟩,⟨b1,e2⟩,d1⟩:=h1
 obtain⟨⟨q2,e3⟩,⟨b2,e4⟩,d2⟩:=h2
 exact⟨⟨q1++q2,by rw[e3,e1,List.append_assoc]⟩,⟨b1++b2,by rw[e4,e2,List.append_assoc]⟩,d1.trans d2⟩
structure BkF (bk:Bk):Prop where
 i:BkI bk
 a:∀d∈bk.ds,arityT d.name=0/\dupS d.params=false
theorem regOf_pre{l m:List Reg}{n:ByteArray}{g:Reg}(h:regOf l n=some g):regOf (l++m) n=some g:=by
 unfold regOf at h ⊢
 rw[List.find?_append,h];rfl
theorem atP_pre{l m:List Reg}{a:Arg}(h:atP l a=0):atP (l++m) a=0:=by
 unfold atP at h ⊢
 cases hr:regOf l a.name with
 |none=>rw[hr]at h;cases h
 |some g=>rw[hr]at h;rw[regOf_pre hr];exact h
theorem BkF.modify{bk:Bk}(a:BkF bk){k:Nat}{f:Dfn->Dfn}(hf:∀d,core (f d)=core d)(hd:∀d∈bk.ds,0<=(f d).depth/\(f d).depth<=100/\0<=(f d).ops/\(f d).ops<=4097):BkF { bk with ds:=bk.ds.modify k f }/\Mono bk { bk with ds:=bk.ds.modify k f }:=by
 obtain⟨h1,h2⟩:=a.i.modify (k:=k) hf hd
 refine⟨⟨h1,fun d h=>?_⟩,⟨[],by simp⟩,⟨[],by simp⟩,h2⟩
 rcases mem_modify h with h3 |⟨e,h3,rfl⟩
 ·exact a.a d h3
 ·rw[show(f e).name=e.name from congrArg (·.1) (hf e),show(f e).params=e.params from congrArg (·.2.1) (hf e)]
  exact a.a e h3
theorem dfnOf_at{bk:Bk}{n:ByteArray}{d:Dfn}(h:dfnOf bk.ds n=some d):∃k:Nat,bk.ds[k]?=some d/\d.name=n:=by
 have h1:=List.mem_of_find?_eq_some h
 have h2:=List.find?_some h
 obtain⟨k,hk⟩:=List.mem_iff_getElem?.1 h1
 exact⟨k,hk,by simpa using h2⟩
def UseN(bk:Bk)(k:Nat)(r:Row):Prop:=(dfnOf bk.ds r.name=none/\0<arityT r.name/\(r.args.length:Int)=arityT r.name)\/∃j d,j<k/\bk.ds[j]?=some d/\d.name=r.name/\r.args.length=d.params.length/\arityT r.name=0
inductive GB (bk:Bk) (k:Nat) (ps:List ByteArray):List Row->Prop
 |nil:GB bk k ps []
 |use {r:Row} {l:List Row} (h0:r.kind=sUse) (h1:r.rows=0) (h2:UseN bk k r) (h3:∀a∈r.args,memB a.name ps=true) (h4:GB bk k ps l):GB bk k ps (r::l)
 |rep {r:Row} {l:List Row} (h0:r.kind=sRepeat) (h1:0<=r.rows/\r.rows<=l.length) (h2:GB bk k ps (l.take r.rows.toNat)) (h3:GB bk k ps (l.drop r.rows.toNat)):GB bk k ps (r::l)
structure RowO (bk:Bk) (r:Row):Prop where
 u:r.kind=sUse->UseN bk bk.ds.length r/\∀a∈r.args,atP bk.qs a=0
 i:r.kind=sIf->∃g,regOf bk.bs r.name=some g/\0<=r.num/\(g.size<63->r.num<2^g.size.toNat)
 m:r.kind=sMeasure->∃a b,r.args=[a,b]/\atP bk.qs a=0/\atP bk.bs b=0
 s:r.kind=sReset->∃a,r.args=[a]/\atP bk.qs a=0
inductive GO (bk:Bk):List Row->Prop
 |nil:GO bk []
 |cons {r:Row} {l:List Row} (h0:0<=r.rows/\r.rows<=l.length) (h1:RowO bk r) (h2:r.kind=sRepeat\/r.kind=sIf->GO bk (l.take r.rows.toNat)) (h3:GO bk (l.drop r.rows.toNat)):GO bk (r::l)
def DefOK(bk:Bk)(L:List Row)(k:Nat):Prop:=∀d,bk.ds[k]?=some d->∃a n:Nat,d.from_=a/\d.to_=a+n/\a+n<=L.length/\GB bk k d.params ((L.drop a).take n)
theorem firstE_zero{f:Arg->Int}:∀{l:List Arg},firstE f l=0->∀a∈l,f a=0
 |[],_,a,h=>by cases h
 |b::l,h,a,ha=>by
  unfold firstE at h
  split at h
  ·rename_i hb;exact absurd h hb
  ·rename_i hb
   rcases List.mem_cons.1 ha with rfl |ha
   ·exact Classical.not_not.1 hb
   ·exact firstE_zero h a ha
theorem Mono.dfn{a b:Bk}(m:Mono a b){k:Nat}{d:Dfn}(h:a.ds[k]?=some d):∃d',b.ds[k]?=some d'/\core d'=core d:=m.d.at_ h
def ownK(bf:Bk)(own:Option Nat):Nat:=own.getD bf.ds.length
theorem useP_good{bk bk' bf:Bk}{own:Option Nat}{r:Row}(a:BkF bk)(ho:∀k,own=some k->k+1=bk.ds.length)(h:useP bk own r=.ok bk')(hm:Mono bk bf)(hf:BkF bf) :
  UseN bf (ownK bf own) r/\(own=none->∀x∈r.args,atP bf.qs x=0)/\∀k,own=some k->∀d,bf.ds[k]?=some d->∀x∈r.args,memB x.name d.params=true:=by
 unfold useP at h
 split at h
 ·cases h
 rename_i h1
 split at h
 ·cases h
 rename_i h2
 split at h
 ·cases h
 rename_i h3
 split at h
 ·cases h
 rename_i h4
 have h4:=firstE_zero (Classical.not_not.1 h4)
 have h3:=Classical.not_not.1 h3
 refine⟨?_,?_,?_⟩
 ·unfold wants at h2 h3
  cases hd:dfnOf bk.ds r.name with
  |none=>
   rw[hd]at h2 h3
   simp only at h2 h3
   have hr:=(arityT_le r.name).1
   refine .inl ⟨?_,by omega,h3⟩
   cases hd':dfnOf bf.ds r.name with
   |none=>rfl
   |some d'=>
    obtain⟨k,g1,g2⟩:=dfnOf_at hd'
    have:=(hf.a d' (zP g1)).1
    rw[g2]at this;exact absurd this h2
  |some d=>
   rw[hd]at h2 h3
   simp only at h2 h3
   obtain⟨j,g1,g2⟩:=dfnOf_at hd
   have g3:=(a.a d (zP g1)).1
   rw[g2]at g3
   obtain⟨d',g4,g5⟩:=hm.dfn g1
   have n':d'.name=d.name:=congrArg (·.1) g5
   have p':d'.params=d.params:=congrArg (·.2.1) g5
   refine .inr ⟨j,d',?_,g4,n'.trans g2,?_,g3⟩
   ·cases own with
    |none=>exact(zM.1 g4).1
    |some k=>
     have hk:=ho k rfl
     have hj:=(zM.1 g1).1
     have:j≠k:=fun e=>by
      subst e
      apply h1
      unfold loopB ownD
      simp only[Option.bind_some,g1,g2,decide_true]
     unfold ownK;simp only[Option.getD_some];omega
   ·rw[p']
    cases hw:d.whole with
    |true=>rw[hw]at h3;simp only[zV]at h3;omega
    |false=>rw[hw]at h2;simp only[zE,if_false]at h2;exact absurd g3 h2
 ·rintro rfl x hx
  obtain⟨l,e⟩:=hm.q
  rw[e]
  exact atP_pre (h4 x hx)
 ·rintro k rfl d hd x hx
  have hk:=ho k rfl
  have hlt:k<bk.ds.length:=by omega
  obtain⟨d',g4,g5⟩:=hm.dfn (zJ hlt)
  rw[hd]at g4;cases g4
  have p':d.params=bk.ds[k].params:=congrArg (·.2.1) g5
  have:=h4 x hx
  unfold useArg ownD at this
  simp only[Option.bind_some,zJ hlt]at this
  rw[p']
  split at this
  ·cases this
  ·split at this
   ·assumption
   ·cases this
theorem declP_mono{bk:Bk}{l l':List Reg}{r:Row}(hd:declP bk l 64 r=.ok l'):∃m,l'=l++m:=by
 unfold declP at hd
 split at hd
 ·cases hd
 split at hd
 ·cases hd
 split at hd
 ·cases hd
 cases hd
 exact⟨_,rfl⟩
theorem rowP_mono{bk bk':Bk}{own:Option Nat}{i:Int}{r:Row}(a:BkF bk)(hl:r.args.length<=100000000)(h:rowP bk own i r=.ok bk'):Mono bk bk'/\BkF bk':=by
 obtain⟨b1,x1,_,_,_⟩:=rowP_ok a.i hl h
 have same:∀e,errP e bk=.ok bk'->bk'=bk:=fun e h=>by
  unfold errP at h
  split at h<;>cases h
  rfl
 have fin:bk'=bk->Mono bk bk'/\BkF bk':=fun e=>by subst e;exact⟨Mono.refl,a⟩
 unfold rowP at h
 split at h
 ·cases hd:declP bk bk.qs 64 r with
  |error e=>rw[hd]at h;cases h
  |ok l=>rw[hd]at h;cases h;exact⟨⟨declP_mono hd,⟨[],by simp⟩,x1⟩,⟨b1,a.a⟩⟩
 split at h
 ·cases hd:declP bk bk.bs 64 r with
  |error e=>rw[hd]at h;cases h
  |ok l=>rw[hd]at h;cases h;exact⟨⟨⟨[],by simp⟩,declP_mono hd,x1⟩,⟨b1,a.a⟩⟩
 split at h
 ·have hd:=h
  unfold defP at h
  split at h
  ·cases h
  split at h
  ·cases h
  split at h
  ·cases h
  split at h
  ·cases h
  rename_i hds
  obtain⟨_,_,e,ht⟩:=defP_ok a.i hl hd
  subst e
  refine⟨⟨⟨[],by simp⟩,⟨[],by simp⟩,x1⟩,⟨b1,fun d hd=>?_⟩⟩
  rcases List.mem_append.1 hd with hd |hd
  ·exact a.a d hd
  ·have:=List.mem_singleton.1 hd
   subst this
   have h1:=(takenB_no ht).2.2.2
   have h2:=(arityT_le r.name).1
   exact⟨by simp only;omega,by simpa using hds⟩
 split at h
 ·split at h
  ·cases h
  ·cases h;exact fin rfl
 split at h
 ·unfold ifP at h
  split at h
  ·cases h
  ·split at h
   ·cases h
   ·cases h;exact fin rfl
 split at h
 ·unfold useP at h
  split at h
  ·cases h
  split at h
  ·cases h
  split at h
  ·cases h
  split at h
  ·cases h
  split at h
  ·cases h
  split at h
  ·cases h
  cases h
  unfold deepen at b1 x1 ⊢
  cases own with
  |none=>exact fin rfl
  |some k=>
   refine⟨⟨⟨[],by simp⟩,⟨[],by simp⟩,x1⟩,⟨b1,fun d hd=>?_⟩⟩
   rcases mem_modify hd with h3 |⟨e,h3,rfl⟩
   ·exact a.a d h3
   ·exact a.a e h3
 split at h
 ·unfold measP at h
  split at h
  ·split at h
   ·cases h
   ·exact fin (same _ h)
  ·cases h
 split at h
 ·unfold resetP at h
  split at h
  ·exact fin (same _ h)
  ·cases h
 cases h
 exact fin rfl
theorem errP_ok{e:Int}{bk bk':Bk}(h:errP e bk=.ok bk'):e=0:=by
 unfold errP at h
 split at h
 ·cases h
 ·rename_i h0;exact Classical.not_not.1 h0
theorem rowP_good{bk bk' bf:Bk}{i:Int}{r:Row}(a:BkF bk)(h:rowP bk none i r=.ok bk')(hm:Mono bk bf)(hf:BkF bf):RowO bf r:=by
 have n1:sUse≠sQubits:=by decide
 have n2:sUse≠sBits:=by decide
 have n3:sUse≠sGate:=by decide
 have n4:sUse≠sRepeat:=by decide
 have n5:sUse≠sIf:=by decide
 have i1:sIf≠sQubits:=by decide
 have i2:sIf≠sBits:=by decide
 have i3:sIf≠sGate:=by decide
 have i4:sIf≠sRepeat:=by decide
 have m1:sMeasure≠sQubits:=by decide
 have m2:sMeasure≠sBits:=by decide
 have m3:sMeasure≠sGate:=by decide
 have m4:sMeasure≠sRepeat:=by decide
 have m5:sMeasure≠sIf:=by decide
 have m6:sMeasure≠sUse:=by decide
 have r1:sReset≠sQubits:=by decide
 have r2:sReset≠sBits:=by decide
 have r3:sReset≠sGate:=by decide
 have r4:sReset≠sRepeat:=by decide
 have r5:sReset≠sIf:=by decide
 have r6:sReset≠sUse:=by decide
 have r7:sReset≠sMeasure:=by decide
 unfold rowP at h
 refine⟨fun k=>?_,fun k=>?_,fun k=>?_,fun k=>?_⟩
 ·rw[k,zW n1,zW n2,zW n3,zW n4,zW n5,zX rfl]at h
  obtain⟨h1,h2,_⟩:=useP_good a (fun k e=>by cases e) h hm hf
  exact⟨h1,h2 rfl⟩
 ·rw[k,zW i1,zW i2,zW i3,zW i4,zX rfl]at h
  unfold ifP at h
  split at h
  ·cases h
  ·rename_i g hg
   split at h
   ·cases h
   ·rename_i hn
    obtain⟨l,e⟩:=hm.bb
    exact⟨g,by rw[e];exact regOf_pre hg,by omega,fun hs=>by
     have:¬(g.size<63/\2^g.size.toNat<=r.num):=fun h=>hn (.inr h)
     have h2:¬2^g.size.toNat<=r.num:=fun h=>this ⟨hs,h⟩
     exact Int.not_le.1 h2⟩
 ·rw[k,zW m1,zW m2,zW m3,zW m4,zW m5,zW m6,zX rfl]at h
  unfold measP at h
  split at h
  ·rename_i x y hxy
   split at h
   ·cases h
   ·rename_i h0
    obtain⟨l,e⟩:=hm.bb
    obtain⟨l',e'⟩:=hm.q
    exact⟨x,y,hxy,by rw[e'];exact atP_pre (Classical.not_not.1 h0),by rw[e];exact atP_pre (errP_ok h)⟩
  ·cases h
 ·rw[k,zW r1,zW r2,zW r3,zW r4,zW r5,zW r6,zW r7,zX rfl]at h
  unfold resetP at h
  split at h
  ·rename_i x hx
   obtain⟨l',e'⟩:=hm.q
   exact⟨x,hx,by rw[e'];exact atP_pre (errP_ok h)⟩
  ·cases h
theorem rowP_use{bk bk':Bk}{own:Option Nat}{i:Int}{r:Row}(k:r.kind=sUse)(h:rowP bk own i r=.ok bk'):useP bk own r=.ok bk':=by
 have n1:sUse≠sQubits:=by decide
 have n2:sUse≠sBits:=by decide
 have n3:sUse≠sGate:=by decide
 have n4:sUse≠sRepeat:=by decide
 have n5:sUse≠sIf:=by decide
 unfold rowP at h
 rwa [k,zW n1,zW n2,zW n3,zW n4,zW n5,zX rfl]at h
def sgR(L:List Row)(a n:Nat):List Row:=(L.drop a).take n
theorem sgR_s{L:List Row}{a n:Nat}{r:Row}(h:L[a]?=some r):sgR L a (n+1)=r::sgR L (a+1) n:=by
 obtain⟨h1,h2⟩:=zM.1 h
 unfold sgR
 rw[List.drop_eq_getElem_cons h1,h2,List.take_succ_cons]
theorem sgR_take{L:List Row}{a n k:Nat}(h:k<=n):(sgR L a n).take k=sgR L a k:=by
 unfold sgR
 rw[List.take_take,Nat.min_eq_left h]
theorem sgR_drop{L:List Row}{a n k:Nat}:(sgR L a n).drop k=sgR L (a+k) (n-k):=by
 unfold sgR
 rw[List.drop_take,List.drop_drop]
theorem sgR_len{L:List Row}{a n:Nat}(h:a+n<=L.length):(sgR L a n).length=n:=by
 unfold sgR
 rw[yA,List.length_drop];omega
theorem sgR_sg{rs:List (Row×AV)}{a n:Nat}:sg rs a n=sgR (rs.map (·.1)) a n:=by
 unfold sg sgR
 rw[List.map_take,List.map_drop]
theorem lookP_good{L:List Row}(hL:∀r∈L,r.args.length<=100000000)(n:Nat):∀{deep:Nat}{own:Option Nat}{i:Nat}{bk bk':Bk}(_:i+n<=L.length)(_:BkF bk)(_:∀k,own=some k->k+1=bk.ds.length/\0<deep)(_:lookP deep own i (sgR L i n) bk=.ok bk'),
  BkF bk'/\Mono bk bk'/\(0<deep->bk'.ds.length=bk.ds.length)/\∀bf,Mono bk' bf->BkF bf->(own=none->GO bf (sgR L i n))/\(∀k d,own=some k->bf.ds[k]?=some d->GB bf k d.params (sgR L i n))/\∀k,bk.ds.length<=k->k<bk'.ds.length->DefOK bf L k:=by
 induction n using Nat.strongRecOn with
 |ind n ih=>
 intro deep own i bk bk' hn a ho h
 cases n with
 |zero=>
  have e0:sgR L i 0=[]:=rfl
  rw[e0,lookP_nil]at h
  cases h
  exact⟨a,Mono.refl,fun _=>rfl,fun bf _ _=>⟨fun _=>.nil,fun _ _ _ _=>.nil,fun k h1 h2=>by omega⟩⟩
 |succ m=>
  obtain⟨r,hr⟩:∃r,L[i]?=some r:=⟨L[i]'(by omega),zJ _⟩
  rw[sgR_s hr,lookP_cons,sgR_len (by omega)]at h
  rw[sgR_s hr]
  split at h
  ·cases h
  rename_i hf
  obtain⟨f0,f00,f1,f2,_,f3,f4⟩:=formP_0 (Classical.not_not.1 hf)
  split at h
  ·cases h
  rename_i bk1 h1
  split at h
  ·cases h
  rename_i bk2 h2
  have hla:=hL r (zP hr)
  obtain⟨b1,x1,g1,g2,g3⟩:=rowP_ok a.i hla h1
  obtain⟨m1,a1⟩:=rowP_mono a hla h1
  obtain⟨k,hk⟩:∃k:Nat,r.rows=k:=⟨r.rows.toNat,by omega⟩
  have hkm:k<=m:=by omega
  rw[hk,zY,sgR_take hkm,sgR_drop]at h
  rw[hk,zY,sgR_take hkm]at h2
  have hin:∀j,(if r.kind=sGate then some bk.ds.length else own)=some j->j+1=bk1.ds.length/\0<deep+1:=fun j hj=>by
   by_cases kg:r.kind=sGate
   ·rw[zX kg]at hj
    cases hj
    rw[g3 kg]
    exact⟨by simp,by omega⟩
   ·rw[zW kg]at hj
    exact⟨by rw[g2 kg];exact(ho j hj).1,by omega⟩
  obtain⟨a2,m2,l2,q2⟩:=ih k (by omega) (by omega) a1 hin h2
  have l2:=l2 (by omega)
  have key:∀bk3,BkF bk3->Mono bk2 bk3->bk3.ds.length=bk2.ds.length->lookP deep own (i+1+k) (sgR L (i+1+k) (m-k)) bk3=.ok bk'->BkF bk'/\Mono bk bk'/\(0<deep->bk'.ds.length=bk.ds.length)/\∀bf,Mono bk' bf->BkF bf->(own=none->GO bf (r::sgR L (i+1) m))/\(∀k d,own=some k->bf.ds[k]?=some d->GB bf k d.params (r::sgR L (i+1) m))/\∀k,bk.ds.length<=k->k<bk'.ds.length->DefOK bf L k:=fun bk3 a3 m3 l3 h3=>by
   have ho3:∀j,own=some j->j+1=bk3.ds.length/\0<deep:=fun j hj=>by
    obtain⟨z1,z2⟩:=ho j hj
    have kg:r.kind≠sGate:=fun e=>by
     have:=f3 (by omega)
     unfold declK at this
     rw[e]at this
     simp at this
    exact⟨by rw[l3,l2,g2 kg];exact z1,z2⟩
   obtain⟨a4,m4,l4,q4⟩:=ih (m-k) (by omega) (by omega) a3 ho3 h3
   refine⟨a4,m1.trans (m2.trans (m3.trans m4)),fun hd=>?_,fun bf mf af=>?_⟩
   ·have kg:r.kind≠sGate:=fun e=>by
     have:=f3 (by omega)
     unfold declK at this
     rw[e]at this
     simp at this
    rw[l4 hd,l3,l2,g2 kg]
   ·obtain⟨u1,u2,u3⟩:=q2 bf (m3.trans (m4.trans mf)) af
    obtain⟨v1,v2,v3⟩:=q4 bf mf af
    refine⟨fun hown=>?_,fun j d hown hd=>?_,fun j hj1 hj2=>?_⟩
    ·subst hown
     refine .cons ⟨f1,by rw[sgR_len (by omega)];omega⟩ (rowP_good a h1 (m1.trans (m2.trans (m3.trans (m4.trans mf)))) af) (fun hk2=>?_) ?_
     ·have kg:r.kind≠sGate:=fun e=>by
       rw[e]at hk2
       exact hk2.elim (by decide) (by decide)
      rw[hk,zY,sgR_take hkm]
      exact u1 (zW kg)
     ·rw[hk,zY,sgR_drop]
      exact v1 rfl
    ·have hk2:=f4 (by rw[hown];rfl)
     have kg:r.kind≠sGate:=fun e=>by
      rw[e]at hk2
      exact hk2.elim (by decide) (by decide)
     have w:=v2 j d hown hd
     rcases hk2 with ku |kr
     ·have hb:bodyK r.kind=false:=by rw[ku];decide
      have hz:r.rows=0:=f00.elim (fun h=>by rw[hb]at h;cases h) id
      have hk0:k=0:=by omega
      subst hk0
      obtain⟨z1,_,z3⟩:=useP_good a (fun k e=>(ho k e).1) (rowP_use ku h1) (m1.trans (m2.trans (m3.trans (m4.trans mf)))) af
      have z1:UseN bf j r:=by rw[hown]at z1;exact z1
      exact .use ku hz z1 (z3 j hown d hd) w
     ·refine .rep kr ⟨f1,by rw[sgR_len (by omega)];omega⟩ ?_ ?_
      ·rw[hk,zY,sgR_take hkm]
       exact u2 j d (by rw[zW kg];exact hown) hd
      ·rw[hk,zY,sgR_drop]
       exact w
    ·by_cases hj3:bk3.ds.length<=j
     ·exact v3 j hj3 hj2
     ·by_cases kg:r.kind=sGate
      ·have e1:=g3 kg
       have hlen1:bk1.ds.length=bk.ds.length+1:=by rw[e1];simp
       have hj4:j=bk.ds.length:=by omega
       subst hj4
       intro d hd
       have hd1:bk1.ds[bk.ds.length]?=some ⟨r.name,r.args.map (·.name),i+1,i+1+r.rows,1,0,false⟩:=by rw[e1];simp
       obtain⟨d',g4,g5⟩:=(m2.trans (m3.trans (m4.trans mf))).dfn hd1
       rw[hd]at g4;cases g4
       refine⟨i+1,k,?_,?_,by omega,u2 _ d (zX kg) hd⟩
       ·have:=congrArg (·.2.2.1) g5
        simp only[core]at this
        omega
       ·have:=congrArg (·.2.2.2) g5
        simp only[core]at this
        omega
      ·have:=g2 kg
       omega
  by_cases kg:r.kind=sGate
  ·rw[zX kg]at h
   have hs:Seg (sgR L (i+1) k):=(lookP_ok _ rfl (fun r' hr'=>hL r' (List.mem_of_mem_drop (List.mem_of_mem_take hr'))) a1.i h2).2.2
   have hb:=countP_bd (ds:=bk2.ds) (fun d hd=>(a2.i.ok.ds d hd).2.2.2) hs 0 (by omega)
   obtain⟨a3,m3⟩:=a2.modify (k:=bk.ds.length) (f:=fun d=>{ d with whole:=true,ops:=countP bk2.ds (sgR L (i+1) k) 0 }) (fun _=>rfl) (fun d hd=>by have:=a2.i.ok.ds d hd;simp only;omega)
   exact key _ a3 m3 (by simp) h
  ·rw[zW kg]at h
   exact key _ a2 Mono.refl rfl h
end
section
open Go.Ab
structure Wsh where
 is:Bool
 mask:Int
 value:Int
abbrev OL:=List (COp×Int)
def mkOp(k:Int)(n:ByteArray)(qs:List Int)(b:Int)(w:Wsh):COp:=⟨k,n,qs,b,w.is,w.mask,w.value⟩
def putP(l:OL)(o:COp)(pl:Int):Except Int OL:=if l.length=4096 then .error pl else .ok (l++[(o,pl)])
def repP(f:OL->Except Int OL):Nat->OL->Except Int OL
 |0,l=>.ok l
 |n+1,l=>match f l with |.error e=>.error e |.ok l'=>if l'.length=l.length then .ok l' else repP f n l'
def bndP(env:List (ByteArray×Int))(n:ByteArray):Int:=match env.find? (fun x=>decide (x.1=n)) with |some x=>x.2 |none=>0
def dfnAt(l:List Dfn)(n:ByteArray):Option Nat:=l.findIdx? fun d=>decide (d.name=n)
def bodyOf(L:List Row)(d:Dfn):List Row:=sgR L d.from_.toNat (d.to_-d.from_).toNat
def bindP(f:OL->Except Int OL):Except Int OL->Except Int OL
 |.error e=>.error e
 |.ok l=>f l
def bodyP (bk : Bk) (L : List Row) (k : Nat) (env : List (ByteArray × Int)) (w : Wsh) (pl : Int) (rows : List Row) (l : OL) : Except Int OL :=
  match rows with
  | [] => .ok l
  | r :: rest =>
    bindP (fun l' => bodyP bk L k env w pl (rest.drop r.rows.toNat) l')
      (if r.kind = sRepeat then repP (fun l' => bodyP bk L k env w pl (rest.take r.rows.toNat) l') r.num.toNat l
       else match dfnAt bk.ds r.name with
        | none => putP l (mkOp 1 r.name (r.args.map fun a => bndP env a.name) 0 w) pl
        | some i => match bk.ds[i]? with
          | none => .ok l
          | some d => if d.ops = 0 then .ok l else if i < k then bodyP bk L i (d.params.zip (r.args.map fun a => bndP env a.name)) w pl (bodyOf L d) l else .ok l)
termination_by (k, rows.length)
decreasing_by
  all_goals first
    | exact Prod.Lex.right _ (by simp only [List.length_take, List.length_drop, List.length_cons]; omega)
    | exact Prod.Lex.left _ _ (by assumption)
def applyP(bk:Bk)(L:List Row)(k:Nat)(n:ByteArray)(qs:List Int)(w:Wsh)(pl:Int)(l:OL):Except Int OL:=
 match dfnAt bk.ds n with
 |none=>putP l (mkOp 1 n qs 0 w) pl
 |some i=>match bk.ds[i]? with
  |none=>.ok l
  |some d=>if d.ops=0 then .ok l else if i<k then bodyP bk L i (d.params.zip qs) w pl (bodyOf L d) l else .ok l
theorem bodyP_nil{bk:Bk}{L:List Row}{k:Nat}{env:List (ByteArray×Int)}{w:Wsh}{pl:Int}{l:OL}:bodyP bk L k env w pl [] l=.ok l:=by rw[bodyP]
theorem bodyP_cons{bk:Bk}{L:List Row}{k:Nat}{env:List (ByteArray×Int)}{w:Wsh}{pl:Int}{r:Row}{rest:List Row}{l:OL}:bodyP bk L k env w pl (r::rest) l =
  bindP (bodyP bk L k env w pl (rest.drop r.rows.toNat)) (if r.kind=sRepeat then repP (bodyP bk L k env w pl (rest.take r.rows.toNat)) r.num.toNat l else applyP bk L k r.name (r.args.map fun a=>bndP env a.name) w pl l):=by
 conv=>lhs;rw[bodyP]
 all_goals rfl
def locP(l:List Reg)(a:Arg):Int:=(match regOf l a.name with |some g=>g.from_ |none=>0)+a.index
def maskOf(g:Reg):Int:=IntKind.u64.wrap (IntKind.u64.wrap (IntKind.u64.wrap (1*2^(min g.size.toNat 64))-1)*2^(min g.from_.toNat 64))
def valOf(g:Reg)(n:Int):Int:=IntKind.u64.wrap (IntKind.u64.wrap n*2^(min g.from_.toNat 64))
def andU(a b:Int):Int:=IntKind.u64.wrap (BitVec.ofInt IntKind.u64.bits a &&& BitVec.ofInt IntKind.u64.bits b).toNat
def orU(a b:Int):Int:=IntKind.u64.wrap (BitVec.ofInt IntKind.u64.bits a |||BitVec.ofInt IntKind.u64.bits b).toNat
def wishIn(w:Wsh)(g:Reg)(n:Int):Option Wsh:=if andU w.value (maskOf g)≠andU (valOf g n) w.mask then none else some ⟨true,orU w.mask (maskOf g),orU w.value (valOf g n)⟩
def doP (bk : Bk) (L : List Row) (w : Wsh) (rows : List Row) (l : OL) : Except Int OL :=
  match rows with
  | [] => .ok l
  | r :: rest =>
    bindP (fun l' => doP bk L w (rest.drop r.rows.toNat) l')
      (if r.kind = sRepeat then repP (fun l' => doP bk L w (rest.take r.rows.toNat) l') r.num.toNat l
       else if r.kind = sIf then (match regOf bk.bs r.name with
        | none => .ok l
        | some g => match wishIn w g r.num with
          | none => .ok l
          | some w' => doP bk L w' (rest.take r.rows.toNat) l)
       else if r.kind = sUse then applyP bk L bk.ds.length r.name (r.args.map (locP bk.qs)) w r.place l
       else if r.kind = sMeasure then (match r.args with
        | [a, b] => putP l (mkOp 2 ByteArray.empty [locP bk.qs a] (locP bk.bs b) w) r.place
        | _ => .ok l)
       else if r.kind = sReset then putP l (mkOp 3 ByteArray.empty (r.args.map (locP bk.qs)) 0 w) r.place
       else .ok l)
termination_by rows.length
decreasing_by all_goals (simp only [List.length_take, List.length_drop, List.length_cons]; omega)
def oneP (bk : Bk) (L : List Row) (w : Wsh) (r : Row) (body : List Row) (l : OL) : Except Int OL :=
  if r.kind = sRepeat then repP (doP bk L w body) r.num.toNat l
  else if r.kind = sIf then (match regOf bk.bs r.name with
   | none => .ok l
   | some g => match wishIn w g r.num with
     | none => .ok l
     | some w' => doP bk L w' body l)
  else if r.kind = sUse then applyP bk L bk.ds.length r.name (r.args.map (locP bk.qs)) w r.place l
  else if r.kind = sMeasure then (match r.args with
   | [a, b] => putP l (mkOp 2 ByteArray.empty [locP bk.qs a] (locP bk.bs b) w) r.place
   | _ => .ok l)
  else if r.kind = sReset then putP l (mkOp 3 ByteArray.empty (r.args.map (locP bk.qs)) 0 w) r.place
  else .ok l
theorem doP_nil{bk:Bk}{L:List Row}{w:Wsh}{l:OL}:doP bk L w [] l=.ok l:=by rw[doP]
theorem doP_cons{bk:Bk}{L:List Row}{w:Wsh}{r:Row}{rest:List Row}{l:OL}:doP bk L w (r::rest) l=bindP (doP bk L w (rest.drop r.rows.toNat)) (oneP bk L w r (rest.take r.rows.toNat) l):=by
 conv=>lhs;rw[doP]
 all_goals rfl
structure FlatR where
 q:Int
 b:Int
 ops:List COp
 at_:Int
 err:Int
def flatP(L:List Row):FlatR:=
 match lookP 0 none 0 L ⟨[],[],[]⟩ with
 |.error (pl,e)=>⟨0,0,[],pl,e⟩
 |.ok bk=>match doP bk L ⟨false,0,0⟩ L [] with
  |.error pl=>⟨0,0,[],pl,115⟩
  |.ok l=>
   if (checkP (totalR bk.qs) (totalR bk.bs) (l.map (·.1))).2≠0 then⟨0,0,[],(match l[(checkP (totalR bk.qs) (totalR bk.bs) (l.map (·.1))).1.toNat]? with |some x=>x.2 |none=>0),(checkP (totalR bk.qs) (totalR bk.bs) (l.map (·.1))).2⟩
   else⟨totalR bk.qs,totalR bk.bs,l.map (·.1),0,0⟩
theorem dfnAt_none{l:List Dfn}{n:ByteArray}(h:dfnOf l n=none):dfnAt l n=none:=by
 unfold dfnAt
 rw[List.findIdx?_eq_none_iff]
 intro d hd
 have:=dfnOf_none h d hd
 simpa using this
theorem dfnAt_ix{bk:Bk}(a:BkI bk){k:Nat}{d:Dfn}(h:bk.ds[k]?=some d):dfnAt bk.ds d.name=some k:=by
 unfold dfnAt
 rw[List.findIdx?_eq_some_iff_getElem]
 obtain⟨h1,h2⟩:=zM.1 h
 refine⟨h1,by rw[h2];simp,fun j hj=>?_⟩
 have hp:=List.pairwise_iff_getElem.1 a.nd j k (by simpa using Nat.lt_trans hj h1) (by simpa using h1) hj
 simp only[List.getElem_map]at hp
 rw[h2]at hp
 simpa using hp
end
section
open Go.Ab
attribute [-simp] eAlloc_d eStore_f
def TQ(t:TypeId):Bool:=t==66||t==49||t==3
def Sep(x y:AV):Prop:=∀id off n off' n',x=.sl id off n->y≠.sl id off' n'
structure PX (n0:Nat) (h:AH) (p:Nat) (xr:AV) (bk:Bk) (ids:List Nat) (qm bm gm:Nat) (l:OL) (pl:Int) (xp xo:AV):Prop where
 n:n0<=p/\InS (n0<=·) xp/\InS (n0<=·) xo
 p:h.obj p=some (oPrg xr qm bm gm xp (totalR bk.qs) (totalR bk.bs) xo pl)
 m:PM h bk ids qm bm gm
 x:SlL encI 1 3 h xp (l.map (·.2))
 o:∃yl:List (COp×AV),SlL encO 7 49 h xo yl/\yl.map (·.1)=l.map (·.1)/\∀y∈yl,SlR encI 1 3 h y.2 y.1.qubits/\Sep xp y.2
 len:l.length<=4096
theorem PM.frQ{n0:Nat}{h h':AH}{bk:Bk}{ids:List Nat}{qm bm gm:Nat}(a:PM h bk ids qm bm gm)(hf:Fr h h' (TW TQ n0 h)):PM h' bk ids qm bm gm:=
 ⟨TW.obj hf a.q rfl,TW.obj hf a.b rfl,TW.obj hf a.g rfl,a.len,fun k d id h1 h2=>(a.d k d id h1 h2).fr hf fun i o ho ht=>TW.no ho fun _=>by rcases ht with e |e<;>rw[e]<;>rfl,a.nd,a.qb⟩
theorem RT.frQ{h h':AH}{xr:AV}{rs:List (Row×AV)}{n0:Nat}(a:RT h xr rs)(f:Fr h h' (TW TQ n0 h)):RT h' xr rs:=⟨a.r.frT f rfl,fun y hy=>⟨(a.a y hy).1.frT f rfl,(a.a y hy).2⟩,a.n⟩
theorem PX.fr0{n0:Nat}{h h':AH}{p:Nat}{xr:AV}{bk:Bk}{ids:List Nat}{qm bm gm:Nat}{l:OL}{pl:Int}{xp xo:AV}(a:PX n0 h p xr bk ids qm bm gm l pl xp xo)(f:Fr h h' fun _=>False):PX n0 h' p xr bk ids qm bm gm l pl xp xo:=by
 obtain⟨yl,o1,o2,o3⟩:=a.o
 exact⟨a.n,f.ob0 a.p,a.m.fr0 f,a.x.of_fr f fun _ _ h=>h,⟨yl,o1.of_fr f fun _ _ h=>h,o2,fun y hy=>⟨(o3 y hy).1.fr0 f,(o3 y hy).2⟩⟩,a.len⟩
theorem PX.plAt{n0:Nat}{h:AH}{p:Nat}{xr:AV}{bk:Bk}{ids:List Nat}{qm bm gm:Nat}{l:OL}{pl:Int}{xp xo:AV}(a:PX n0 h p xr bk ids qm bm gm l pl xp xo):PlAt h p pl:=⟨_,a.p,rfl⟩
theorem InS.lift{α:Type}{f:α->List AV}{sz:Nat}{ty:TypeId}{h:AH}{x:AV}{l:List α}(a:SlL f sz ty h x l){W:Nat->Prop}(hw:∀id,h.obj id≠none->W id):InS W x:=by
 intro id off n e
 rcases a with⟨rfl,_⟩ |⟨i,rfl,ho⟩
 ·cases e
 ·cases e
  exact hw _ (by rw[ho];simp)
theorem sl_ne{α:Type}{f:α->List AV}{sz:Nat}{ty:TypeId}{h:AH}{x:AV}{l:List α}(a:SlL f sz ty h x l){i:Nat}{o:AO}(ho:h.obj i=some o)(ht:o.ty≠ty):¬ ∃off n,x=.sl i off n:=by
 rintro⟨off,n,e⟩
 rcases a with⟨rfl,_⟩ |⟨j,rfl,hj⟩
 ·cases e
 ·cases e
  rw[ho]at hj;cases hj
  exact ht rfl
theorem sep_new{α:Type}{f:α->List AV}{sz:Nat}{ty:TypeId}{h:AH}{x z:AV}{l:List α}(a:InS (h.next<=·) x)(b:SlR f sz ty h z l):Sep x z:=by
 intro id off n off' n' e1 e2
 have h1:=a _ _ _ e1
 subst e2
 rcases b with⟨e,_⟩ |⟨_,_,e,_⟩ |⟨j,rest,ro,ty',e,_,hj⟩
 ·cases e
 ·cases e
 ·cases e
  have:=h.lt _ _ hj
  omega
theorem sepF{α:Type}{f:α->List AV}{sz:Nat}{ty:TypeId}{h h':AH}{x z:AV}{l:List α}(b:SlR f sz ty h z l)(hf:Fr h h' fun i=>∃off n,x=.sl i off n)(hs:Sep x z):SlR f sz ty h' z l:=by
 rcases b with e |e |⟨j,rest,ro,ty',rfl,ht,hj⟩
 ·exact .inl e
 ·exact .inr (.inl e)
 ·exact .inr (.inr ⟨j,rest,ro,ty',rfl,ht,hf.obj hj fun⟨off,n,e⟩=>hs _ _ _ _ _ e rfl⟩)
def PE(n0:Nat)(xr:AV)(bk:Bk)(ids:List Nat)(qm bm gm:Nat)(h:AH)(p:Nat)(e:Int):Prop:=∃l xp xo,PX n0 h p xr bk ids qm bm gm l e xp xo
theorem PX.put8{n0:Nat}{h:AH}{p:Nat}{xr:AV}{bk:Bk}{ids:List Nat}{qm bm gm:Nat}{l:OL}{pl:Int}{xp xo:AV}(px:PX n0 h p xr bk ids qm bm gm l pl xp xo){e:Int}:PX n0 (h.put p 8 [I e]) p xr bk ids qm bm gm l e xp xo/\Fr h (h.put p 8 [I e]) (TW TQ n0 h):=by
 have f:Fr h (h.put p 8 [I e]) (·=p):=Fr.refl.put (.inl rfl)
 have o:=put_mk (off:=8) (cs:=[I e]) px.p
 generalize h.put p 8 [I e]=h1 at *
 have g:Fr h h1 (TW TQ n0 h):=TW.of_one f px.n.1 px.p rfl rfl
 obtain⟨yl,o1,o2,o3⟩:=px.o
 refine⟨⟨px.n,o,px.m.frQ g,px.x.of_fr f fun id e he=>?_,⟨yl,o1.of_fr f fun id e he=>?_,o2,fun y hy=>⟨(o3 y hy).1.fr f fun id o ho ht e=>?_,(o3 y hy).2⟩⟩,px.len⟩,g⟩
 ·subst he;exact sl_ne px.x px.p (show(66:Nat)≠3 by decide) ⟨_,_,e⟩
 ·subst he;exact sl_ne o1 px.p (show(66:Nat)≠49 by decide) ⟨_,_,e⟩
 ·subst e
  have hp:=px.p
  rw[ho]at hp;cases hp
  exact absurd (ht rfl) (show(66:Nat)≠3 by decide)
section
variable {h:AH} {M:Nat->Prop} {R:AE->AH->Prop} {n0 p:Nat} {xr xp xo xq:AV} {bk:Bk} {ids:List Nat} {qm bm gm:Nat} {l:OL} {pl place:Int} {k b:Int} {n:ByteArray} {qs:List Int} {w:Wsh}
abbrev encW(w:Wsh):List AV:=[B w.is,U w.mask,U w.value]
theorem put_ok(px:PX n0 h p xr bk ids qm bm gm l pl xp xo)(hq:SlR encI 1 3 h xq qs)(sep:Sep xp xq)(hM:∀id,TW TQ n0 h id->M id)
  (he:∀h',putP l (mkOp k n qs b w) place=.error place->PE n0 xr bk ids qm bm gm h' p place->Fr h h' (TW TQ n0 h)->R (.ret (B false)) h')
  (hk:∀l' pl' xp' xo' h',putP l (mkOp k n qs b w) place=.ok l'->PX n0 h' p xr bk ids qm bm gm l' pl' xp' xo'->Fr h h' (TW TQ n0 h)->R (.ret (B true)) h') :
  ACalls Try.prog 43 [.ptr p 0,.agg [I k,Sb n,xq,I b,B false,U 0,U 0],.agg (encW w),I place] h M R:=by
 apply F43.callsN
 unfold F43.n9
 refine box_var (by show(true&&(true&&(oneA xq&&true)))=true;rw[hq.one.1];rfl) fun vo h1 f1 hvo oo=>?_
 refine box_var rfl fun vw h2 f2 hvw ow=>?_
 have f02:=f1.tr0 f2
 have oo2:=f2.ob0 oo
 have px2:=px.fr0 f02
 have hq2:=hq.fr0 f02
 have hne:vo≠vw:=fun e=>by
  have:=h1.lt _ _ oo
  omega
 have hM2:∀{h3:AH},Fr h h3 (TW TQ n0 h)->∀id,TW TQ n0 h3 id->(M id\/h.next<=id):=fun f id hid=>(TW.back f hid).elim (fun h=>.inl (hM id h)) .inr
 have mp:∀{h3:AH},(M p\/h3.next<=p):=.inl (hM p ⟨px.n.1,_,px.p,rfl,rfl⟩)
 unfold putP at he hk
 simp only[F43.n8,pNil_ptr,pFld_ptr,lLd_f,px2.p,ldk_mk,zG,Nat.reduceAdd,zA,zB,cellK_some]
 obtain⟨yl,o1,o2,o3⟩:=px2.o
 have hyl:yl.length=l.length:=by have:=congrArg List.length o2;simpa using this
 simp only[o1.toR.len.1,o1.toR.len.2,zH,pBin_eql,hyl]
 by_cases k1:l.length=4096
 ·rw[zX k1]at he
  have k1':((l.length:Int)==4096)=true:=by rw[k1];rfl
  simp only[k1',F43.n7,aIf_b,zD,zF,zC,zI,F43.n6,pNil_ptr,pFld_ptr,eStore_f,px2.p,avC_int,stk_mk]
  refine⟨⟨mp (h3:=h),rfl,rfl,by simp⟩,?_⟩
  obtain⟨px3,f3⟩:=px2.put8 (e:=place)
  generalize h2.put p 8 [I place]=h3 at *
  simpa[F43.n5] using he h3 rfl ⟨l,xp,xo,px3⟩ (TW.trans (TW.of_fr f02) f3)
 ·rw[zW k1]at hk
  have k1':((l.length:Int)==4096)=false:=by
   have:¬(l.length:Int)=4096:=by omega
   simpa using this
  simp only[k1',F43.n7,aIf_b,zE,zD,zC,zH,F43.n4]
  refine⟨fun _=>vw,fun _ _=>by rw[ow];simp,?_⟩
  simp only[pFld_ptr,lLd_f,ow,ldk_mk,zG,zA,zB,cellK_some,zH,eStore_f,oo2,avC_bool,stk_mk]
  have wo:∀{i:Nat},i=vo->(M i\/h.next<=i):=fun e=>by subst e;exact .inr hvo
  refine⟨⟨⟨wo rfl,fun _ _=>hne⟩,rfl,rfl,by simp⟩,?_⟩
  have f3:Fr h (h2.put vo 4 [B w.is]) fun _=>False:=f02.put (.inr hvo)
  have oo3:=put_mk (off:=4) (cs:=[B w.is]) oo2
  generalize h2.put vo 4 [B w.is]=h3 at *
  simp only[oo3,avC_int,stk_mk]
  refine⟨⟨⟨wo rfl,fun _ _=>hne⟩,rfl,rfl,by simp⟩,?_⟩
  have f4:Fr h (h3.put vo 5 [U w.mask]) fun _=>False:=f3.put (.inr hvo)
  have oo4:=put_mk (off:=5) (cs:=[U w.mask]) oo3
  generalize h3.put vo 5 [U w.mask]=h4 at *
  simp only[oo4,avC_int,stk_mk]
  refine⟨⟨wo rfl,rfl,rfl,by simp⟩,?_⟩
  have f5:Fr h (h4.put vo 6 [U w.value]) fun _=>False:=f4.put (.inr hvo)
  have oo5:=put_mk (off:=6) (cs:=[U w.value]) oo4
  generalize h4.put vo 6 [U w.value]=h5 at *
  have px5:=px.fr0 f5
  have hq5:=hq.fr0 f5
  obtain⟨yl,o1,o2,o3⟩:=px5.o
  have hyl5:yl.length=l.length:=by have:=congrArg List.length o2;simpa using this
  have ollen:=px.len
  simp only[F43.n3,pNil_ptr,pFld_ptr,lLd_f,px5.p,ldk_mk,zG,Nat.reduceAdd,zA,zB,cellK_some]
  refine var_ld oo5 rfl fun _=>?_
  refine appv (f:=encO) (t:=(mkOp k n qs b w,xq)) encO_len (by omega) rfl (by omega) rfl (encO_one hq.one.1) o1 ?_ (by omega) fun y h6 hy hys f6=>?_
  ·intro id off n e
   rcases o1 with⟨e1,_⟩ |⟨j,e1,ho⟩
   ·rw[e1]at e;cases e
   ·rw[e1]at e;cases e
    exact(hM2 (TW.of_fr f5) _ ⟨px.n.2.2 _ _ _ e1,_,ho,rfl,rfl⟩)
  ·have oy:[y].all oneA=true:=by show(oneA y&&true)=true;rw[hy.toR.one.1];rfl
   have np:¬ ∃off n,xo=.sl p off n:=sl_ne o1 px5.p (show(66:Nat)≠49 by decide)
   have p6:=f6.obj px5.p np
   have g6:Fr h h6 (TW TQ n0 h):=by
    refine TW.trans (TW.of_fr f5) (f6.mono fun i ⟨off,n,e⟩=>?_)
    rcases o1 with⟨e1,_⟩ |⟨j,e1,ho⟩
    ·rw[e1]at e;cases e
    ·rw[e1]at e;cases e
     exact⟨px.n.2.2 _ _ _ e1,_,ho,rfl,rfl⟩
   have x6:SlL encI 1 3 h6 xp (l.map (·.2)):=px5.x.of_fr f6 fun id e=>by
    rcases px5.x with⟨e1,_⟩ |⟨j,e1,ho⟩
    ·rw[e1]at e;cases e
    ·rw[e1]at e;cases e
     exact sl_ne o1 ho (show(3:Nat)≠49 by decide)
   have q6:∀{z:AV}{zl:List Int},SlR encI 1 3 h5 z zl->SlR encI 1 3 h6 z zl:=fun hz=>hz.fr f6 fun id o ho ht ⟨off,n,e⟩=>by
    rcases o1 with⟨e1,_⟩ |⟨j,e1,hj⟩
    ·rw[e1]at e;cases e
    ·rw[e1]at e;cases e
     rw[hj]at ho;cases ho
     exact absurd (ht rfl) (show(49:Nat)≠3 by decide)
   simp only[pNil_ptr,pFld_ptr,eStore_f,p6,hy.toR.one.2,stk_mk,zG,Nat.reduceAdd]
   refine⟨⟨mp (h3:=h),oy,rfl,by simp⟩,?_⟩
   have f7:Fr h6 (h6.put p 7 [y]) (·=p):=Fr.refl.put (.inl rfl)
   have p7:=put_mk (off:=7) (cs:=[y]) p6
   generalize h6.put p 7 [y]=h7 at *
   have g7:=TW.trans g6 (TW.of_one (T:=TQ) f7 px.n.1 p6 rfl rfl)
   have x7:SlL encI 1 3 h7 xp (l.map (·.2)):=x6.of_fr f7 fun id e he=>by
    subst he
    exact sl_ne x6 p6 (show(66:Nat)≠3 by decide) ⟨_,_,e⟩
   have y7:SlL encO 7 49 h7 y (yl++[(mkOp k n qs b w,xq)]):=hy.of_fr f7 fun id e he=>by
    subst he
    exact sl_ne hy p6 (show(66:Nat)≠49 by decide) ⟨_,_,e⟩
   have q7:∀{z:AV}{zl:List Int},SlR encI 1 3 h6 z zl->SlR encI 1 3 h7 z zl:=fun hz=>hz.fr f7 fun id o ho ht e=>by
    subst e
    rw[p6]at ho;cases ho
    exact absurd (ht rfl) (show(66:Nat)≠3 by decide)
   simp only[F43.n2,pNil_ptr,pFld_ptr,lLd_f,p7,putCells,List.set_cons_zero,List.set_cons_succ,ldk_mk,zG,Nat.reduceAdd,zA,zB,cellK_some]
   refine appv (f:=encI) (t:=place) encI_len (by omega) rfl (by omega) rfl rfl x7 ?_ (by have:=px.len;simp only[zZ];omega) fun z h8 hz hzs f8=>?_
   ·intro id off n e
    rcases x7 with⟨e1,_⟩ |⟨j,e1,ho⟩
    ·rw[e1]at e;cases e
    ·rw[e1]at e;cases e
     exact(hM2 g7 _ ⟨px.n.2.1 _ _ _ e1,_,ho,rfl,rfl⟩)
   ·have oz:[z].all oneA=true:=by show(oneA z&&true)=true;rw[hz.toR.one.1];rfl
    have np8:¬ ∃off n,xp=.sl p off n:=sl_ne x7 p7 (show(66:Nat)≠3 by decide)
    have p8:=f8.obj p7 np8
    have g8:Fr h h8 (TW TQ n0 h):=by
     refine TW.trans g7 (f8.mono fun i ⟨off,n,e⟩=>?_)
     rcases x7 with⟨e1,_⟩ |⟨j,e1,ho⟩
     ·rw[e1]at e;cases e
     ·rw[e1]at e;cases e
      exact⟨px.n.2.1 _ _ _ e1,_,ho,rfl,rfl⟩
    have y8:SlL encO 7 49 h8 y (yl++[(mkOp k n qs b w,xq)]):=y7.of_fr f8 fun id e=>by
     rcases y7 with⟨e1,_⟩ |⟨j,e1,ho⟩
     ·rw[e1]at e;cases e
     ·rw[e1]at e;cases e
      exact sl_ne x7 ho (show(49:Nat)≠3 by decide)
    simp only[pNil_ptr,pFld_ptr,eStore_f,p8,hz.toR.one.2,stk_mk,zG,Nat.reduceAdd]
    refine⟨⟨mp (h3:=h),oz,rfl,by simp⟩,?_⟩
    have f9:Fr h8 (h8.put p 4 [z]) (·=p):=Fr.refl.put (.inl rfl)
    have p9:=put_mk (off:=4) (cs:=[z]) p8
    generalize h8.put p 4 [z]=h9 at *
    have g9:=TW.trans g8 (TW.of_one (T:=TQ) f9 px.n.1 p8 rfl rfl)
    have z9:SlL encI 1 3 h9 z (l.map (·.2)++[place]):=hz.of_fr f9 fun id e he=>by
     subst he
     exact sl_ne hz p8 (show(66:Nat)≠3 by decide) ⟨_,_,e⟩
    have y9:SlL encO 7 49 h9 y (yl++[(mkOp k n qs b w,xq)]):=y8.of_fr f9 fun id e he=>by
     subst he
     exact sl_ne y8 p8 (show(66:Nat)≠49 by decide) ⟨_,_,e⟩
    have q9:∀{z:AV}{zl:List Int},SlR encI 1 3 h8 z zl->SlR encI 1 3 h9 z zl:=fun hz=>hz.fr f9 fun id o ho ht e=>by
     subst e
     rw[p8]at ho;cases ho
     exact absurd (ht rfl) (show(66:Nat)≠3 by decide)
    have qall:∀{v:AV}{zl:List Int},SlR encI 1 3 h5 v zl->Sep xp v->SlR encI 1 3 h9 v zl/\Sep z v:=fun{v zl} hv hs=>by
     have h7':SlR encI 1 3 h7 v zl:=q7 (q6 hv)
     exact⟨q9 (sepF h7' f8 hs),sep_new hzs h7'⟩
    have lt:∀{a b:AH}{S:Nat->Prop},Fr a b S->∀{x:AV},InS (b.next<=·) x->InS (a.next<=·) x:=fun f x hx id off n e=>zR f.next (hx _ _ _ e)
    simp only[F43.n1]
    have fin:=hk (l++[(mkOp k n qs b w,place)]) pl z y h9 rfl ⟨⟨px.n.1,fun id off n e=>?_,fun id off n e=>?_⟩,?_,px.m.frQ g9,by simpa using z9,⟨_,y9,by simp[o2],fun v hv=>?_⟩,by simp only[List.length_append,List.length_singleton];have:=px.len;omega⟩ g9
    ·simpa using fin
    ·have h1:=lt g7 hzs _ _ _ e
     have h2:=h.lt _ _ px.p
     have h3:=px.n.1
     omega
    ·have h1:=lt (TW.of_fr (T:=TQ) (n0:=n0) f5) hys _ _ _ e
     have h2:=h.lt _ _ px.p
     have h3:=px.n.1
     omega
    ·simpa[putCells] using p9
    ·rcases List.mem_append.1 hv with hv |hv
     ·exact qall (o3 v hv).1 (o3 v hv).2
     ·have:=List.mem_singleton.1 hv
      subst this
      exact qall hq5 sep
end
end
section
open Go.Ab
attribute [-simp] eAlloc_d eStore_f
theorem atP_0{l:List Reg}{a:Arg}(h:atP l a=0):∃g,regOf l a.name=some g/\0<=a.index/\a.index<g.size:=by
 unfold atP at h
 split at h
 ·cases h
 ·rename_i g hg
  split at h
  ·cases h
  ·exact⟨g,hg,by omega,by omega⟩
section
variable {h:AH} {M:Nat->Prop} {R:AE->AH->Prop} {p:Nat} {x1:AV} {bk:Bk} {ids:List Nat} {qm bm gm:Nat} {cs:List AV} {args:List Arg}
theorem located_ok(hp:h.obj p=some (mkO cs 9 66))(c1:cs[1]?=some (.mp qm))(pm:PM h bk ids qm bm gm)(ok:BkOK bk)(ha:SlR Arg.enc 2 44 h x1 args)(hl:args.length<=100000000)(hat:∀a∈args,atP bk.qs a=0)
  (hR:∀y h',SlL encI 1 3 h' y (args.map (locP bk.qs))->InS (h.next<=·) y->Fr h h' (fun _=>False)->R (.ret y) h'):ACalls Try.prog 42 [.ptr p 0,x1] h M R:=by
 apply F42.callsN
 unfold F42.n10 F42.n9 F42.n8
 refine⟨ha.len.1,?_⟩
 rw[ha.len.2]
 unfold F42.n7
 refine vLoop_of (ι:=Nat×AV) (fun i v h'=>v=[.ptr p 0,i.2,x1,I args.length,I i.1]/\i.1<=args.length/\Fr h h' (fun _=>False)/\SlL encI 1 3 h' i.2 ((args.take i.1).map (locP bk.qs))/\InS (h.next<=·) i.2) (fun i=>args.length-i.1) (0,nilS) ⟨rfl,by omega,Fr.refl,by simpa using SlL.nil,fun _ _ _ e=>by cases e⟩ ?_
 rintro K ⟨i,x5⟩ v h1 ⟨rfl,hi,f1,hx,hs⟩ step
 simp only at hi hx hs step
 simp only[F42.g1_,zN,zO,F42.n6,pBin_lss]
 by_cases hlt:i<args.length
 ·have hli:(i:Int)<args.length:=by omega
  have g1:args[i]?=some args[i]:=zJ hlt
  have hmem:=List.getElem_mem hlt
  have htk:args.take (i+1)=args.take i++[args[i]]:=by rw[List.take_add_one,g1];rfl
  generalize args[i]=a at *
  obtain⟨g,hg,i0,i1⟩:=atP_0 (hat a hmem)
  have hgs:=ok.sq g (List.mem_of_find?_eq_some hg)
  have ht:=ok.tq
  simp only[zL hli,F42.n5,aIf_b,zD,zF,zC,zI,F42.n4]
  refine rng_var (ha.fr0 f1) Arg.enc_len (Arg.enc_one a) g1 rfl rfl (fun id hid=>.inr (zR f1.next hid)) fun vn h2 f2 hvn ov=>?_
  have f02:=f1.tr0 f2
  simp only[F42.n3,pNil_ptr,pFld_ptr,lLd_f,f02.ob0 hp,ov,ldk_mk,zG,c1,Arg.enc,zA,zB,cellK_some]
  refine look_k (enc:=Sb) key9 z93 (pm.fr0 f02).q fun _=>?_
  rw[getK_reg,hg]
  have w1:IntKind.i64.wrap (g.from_+a.index)=locP bk.qs a:=by
   unfold locP
   rw[hg]
   exact wrap_in (by omega) (by omega)
  have w2:IntKind.i64.wrap ((i:Int)+1)=((i+1:Nat):Int):=by rw[wrap_in (by omega) (by omega)];simp
  simp only[yB,lookV,zE,if_false,encG,pFdV,List.take,List.drop,zA,pFld_ptr,lLd_f,ov,ldk_mk,zG,zB,cellK_some,pBin_add,w1]
  refine⟨_,rfl,?_⟩
  simp only[pBin_add,w1]
  refine appv (f:=encI) (t:=locP bk.qs a) encI_len (by omega) rfl (by omega) rfl rfl (hx.of_fr f2 fun _ _ h=>h) (fun id off n e=>.inr (hs id off n e)) (by rw[zZ,yA];omega) fun y h3 hy hys f3=>?_
  have f03:Fr h h3 fun _=>False:=f02.trans (f3.mono fun j ⟨off,n,e⟩=>.inr (hs j off n e))
  simp only[F42.n2,pBin_add,w2]
  refine step (i+1,y) _ h3 (by simp only;omega) ⟨rfl,by simp only;omega,f03,?_,fun id off n e=>zR f02.next (hys id off n e)⟩
  rw[htk,List.map_append]
  exact hy
 ·have hnl:¬(i:Int)<args.length:=by omega
  have e:i=args.length:=by omega
  subst e
  rw[List.take_length]at hx
  simpa[hnl,F42.n5,F42.n1] using hR x5 h1 hx hs f1
end
end
section
open Go.Ab
attribute [-simp] eAlloc_d eStore_f
abbrev oEnv(env:List (ByteArray×Int)):AO:=oMap Sb 120 (env.map fun x=>(x.1,I x.2))
theorem getK_env{n:ByteArray}{env:List (ByteArray×Int)}:(match getK n (env.map fun x=>(x.1,I x.2)) with |some v=>v |none=>I 0)=I (bndP env n):=by
 rw[getK_map (f:=fun x:ByteArray×Int=>x.1) (g:=fun x=>I x.2)]
 unfold bndP
 cases env.find? fun x=>decide (x.1=n)<;>rfl
structure SC (bk:Bk) (rs:List (Row×AV)):Prop where
 bf:BkF bk
 dk:∀k,DefOK bk (rs.map (·.1)) k
 nm:∀y∈rs,y.1.num<=9223372036854775807
def BodyS(n0 p:Nat)(xr:AV)(bk:Bk)(ids:List Nat)(qm bm gm:Nat)(rs:List (Row×AV))(k n:Nat):Prop:=
 ∀(h:AH)(M:Nat->Prop)(R:AE->AH->Prop)(a:Nat)(env:List (ByteArray×Int))(mb:Nat)(w:Wsh)(pl place:Int)(xp xo:AV)(l:OL)(ps:List ByteArray),PX n0 h p xr bk ids qm bm gm l pl xp xo->RT h xr rs->a+n<=rs.length ->
  h.obj mb=some (oEnv env)->GB bk k ps (sg rs a n)->(∀id,TW TQ n0 h id->M id) ->
  (∀e h',bodyP bk (rs.map (·.1)) k env w place (sg rs a n) l=.error e->PE n0 xr bk ids qm bm gm h' p e->Fr h h' (TW TQ n0 h)->R (.ret (B false)) h') ->
  (∀l' pl' xp' xo' h',bodyP bk (rs.map (·.1)) k env w place (sg rs a n) l=.ok l'->PX n0 h' p xr bk ids qm bm gm l' pl' xp' xo'->Fr h h' (TW TQ n0 h)->R (.ret (B true)) h') ->
  ACalls Try.prog 64 [.ptr p 0,I a,I (a+n),.mp mb,.agg (encW w),I place] h M R
def NameK(bk:Bk)(k:Nat)(nm:ByteArray)(n:Nat):Prop:=dfnOf bk.ds nm=none\/∃j d,j<k/\bk.ds[j]?=some d/\d.name=nm/\n=d.params.length
def ApplyS(n0 p:Nat)(xr:AV)(bk:Bk)(ids:List Nat)(qm bm gm:Nat)(rs:List (Row×AV))(k:Nat):Prop:=
 ∀(h:AH)(M:Nat->Prop)(R:AE->AH->Prop)(nm:ByteArray)(qs:List Int)(xq:AV)(w:Wsh)(pl place:Int)(xp xo:AV)(l:OL),PX n0 h p xr bk ids qm bm gm l pl xp xo->RT h xr rs ->
  SlR encI 1 3 h xq qs->Sep xp xq->NameK bk k nm qs.length->(∀id,TW TQ n0 h id->M id) ->
  (∀e h',applyP bk (rs.map (·.1)) k nm qs w place l=.error e->PE n0 xr bk ids qm bm gm h' p e->Fr h h' (TW TQ n0 h)->R (.ret (B false)) h') ->
  (∀l' pl' xp' xo' h',applyP bk (rs.map (·.1)) k nm qs w place l=.ok l'->PX n0 h' p xr bk ids qm bm gm l' pl' xp' xo'->Fr h h' (TW TQ n0 h)->R (.ret (B true)) h') ->
  ACalls Try.prog 41 [.ptr p 0,Sb nm,xq,.agg (encW w),I place] h M R
theorem PX.opsLen{n0:Nat}{h:AH}{p:Nat}{xr:AV}{bk:Bk}{ids:List Nat}{qm bm gm:Nat}{l:OL}{pl:Int}{xp xo:AV}(a:PX n0 h p xr bk ids qm bm gm l pl xp xo):strArg xo=false/\∀K:AV->Prop,pLen xo K=K (I l.length):=by
 obtain⟨yl,o1,o2,_⟩:=a.o
 have hyl:yl.length=l.length:=by have:=congrArg List.length o2;simpa using this
 rw[<-hyl]
 exact o1.toR.len
section
variable {W:Nat->Prop} {QR QN:VK} {QE:Nat->VK} {QP:AV->AH->Prop} {h:AH} {n0 p vw vr mb:Nat} {xr xp xo x2:AV} {bk:Bk} {ids:List Nat} {qm bm gm:Nat} {l:OL} {pl place:Int} {rs:List (Row×AV)} {w:Wsh} {y:Row×AV} {k j kk:Nat} {env:List (ByteArray×Int)} {ps:List ByteArray}
theorem F64_rep(hB:BodyS n0 p xr bk ids qm bm gm rs k kk)(px:PX n0 h p xr bk ids qm bm gm l pl xp xo)(rt:RT h xr rs)(hj:j+1+kk<=rs.length)(om:h.obj mb=some (oEnv env))(ow:h.obj vw=some (mkO (encW w) 3 69))(or_:h.obj vr=some (mkO (encRA y) 6 42))(hrw:y.1.rows=kk)
  (hg:GB bk k ps (sg rs (j+1) kk)) (hW:∀id,TW TQ n0 h id\/h.next<=id->W id)
  (he:∀e h',repP (bodyP bk (rs.map (·.1)) k env w place (sg rs (j+1) kk)) y.1.num.toNat l=.error e->PE n0 xr bk ids qm bm gm h' p e->Fr h h' (TW TQ n0 h)->QR [B false] h')
  (hk:∀l' pl' xp' xo' h',repP (bodyP bk (rs.map (·.1)) k env w place (sg rs (j+1) kk)) y.1.num.toNat l=.ok l'->PX n0 h' p xr bk ids qm bm gm l' pl' xp' xo'->Fr h h' (TW TQ n0 h)->F64.n2 W QR QN QE QP (.ptr p 0) x2 (.mp mb) (I place) (.ptr vw 0) (I j) h') (hnum:y.1.num<=9223372036854775807) :
  F64.n25 W QR QN QE QP (.ptr p 0) x2 (.mp mb) (I place) (.ptr vw 0) (I j) (.ptr vr 0) h:=by
 unfold F64.n25 F64.n24
 have hlen:=rt.n
 refine vLoop_of (ι:=Nat×OL×Int×AV×AV) (fun i v h'=>v=[.ptr p 0,x2,.mp mb,I place,.ptr vw 0,I j,.ptr vr 0,I (y.1.num.toNat-i.1:Nat)]/\i.1<=y.1.num.toNat/\PX n0 h' p xr bk ids qm bm gm i.2.1 i.2.2.1 i.2.2.2.1 i.2.2.2.2/\repP (bodyP bk (rs.map (·.1)) k env w place (sg rs (j+1) kk)) i.1 i.2.1=repP (bodyP bk (rs.map (·.1)) k env w place (sg rs (j+1) kk)) y.1.num.toNat l/\Fr h h' (TW TQ n0 h)) (fun i=>i.1) (y.1.num.toNat,l,pl,xp,xo) ⟨by simp,zU _,px,rfl,TW.of_fr Fr.refl⟩ ?_
 rintro K ⟨c,l1,pl1,xp1,xo1⟩ v h1 ⟨rfl,hc,px1,heq,f1⟩ step
 simp only at hc px1 heq step
 have or1:h1.obj vr=some (mkO (encRA y) 6 42):=TW.obj f1 or_ rfl
 have ow1:h1.obj vw=some (mkO (encW w) 3 69):=TW.obj f1 ow rfl
 have om1:h1.obj mb=some (oEnv env):=TW.obj f1 om rfl
 simp only[F64.g3_,zN,zO,F64.n23,pFld_ptr,lLd_f,or1,ldk_mk,zG,encRA,zA,zB,cellK_some,pBin_lss]
 cases c with
 |zero=>
  have e1:decide (((y.1.num.toNat-0:Nat):Int)<y.1.num)=false:=by simp;omega
  simp only[repP]at heq
  simp only[e1,F64.n22,aIf_b,zE,zD,zC,zH,zV,if_false,F64.n14,zN,zO]
  exact hk l1 pl1 xp1 xo1 h1 heq.symm px1 f1
 |succ c=>
  have e1:decide (((y.1.num.toNat-(c+1):Nat):Int)<y.1.num)=true:=by simp;omega
  have w1:∀x:Int,0<=x/\x<=1000000000->IntKind.i64.wrap x=x:=fun x hx=>wrap_in (by omega) (by omega)
  simp only[repP]at heq
  simp only[e1,F64.n22,aIf_b,zD,zF,zC,zI,F64.n21,pNil_ptr,pFld_ptr,lLd_f,px1.p,ldk_mk,zG,Nat.reduceAdd,zA,zB,cellK_some,px1.opsLen.1,px1.opsLen.2,zH,F64.n20,or1,encRA,hrw,pBin_add,w1 ((j:Int)+1) (by omega),w1 ((j:Int)+1+kk) (by omega)]
  refine var_ld ow1 rfl fun _=>?_
  refine⟨TW TQ n0 h1,fun id hs _=>hW id (TW.back f1 hs),hB h1 _ _ (j+1) env mb w pl1 place xp1 xo1 l1 ps px1 (rt.frQ f1) hj om1 hg (fun _ h=>h) ?_ ?_⟩
  ·intro e h2 hb hp f2
   rw[hb]at heq
   simp only[pUn_not,zT,F64.n19,aIf_b,zD,zF,zC,zI,F64.n18]
   exact he e h2 heq.symm hp (TW.trans f1 f2)
  ·intro l2 pl2 xp2 xo2 h2 hb px2 f2
   rw[hb]at heq
   simp only at heq
   have f02:=TW.trans f1 f2
   simp only[pUn_not,zS,F64.n19,aIf_b,zE,zD,zC,zH,F64.n17,pNil_ptr,pFld_ptr,lLd_f,px2.p,ldk_mk,zG,Nat.reduceAdd,zA,zB,cellK_some,px2.opsLen.1,px2.opsLen.2,pBin_eql]
   by_cases k1:l2.length=l1.length
   ·rw[zX k1]at heq
    have k1':((l2.length:Int)==(l1.length:Int))=true:=by rw[k1];simp
    simp only[k1',F64.n16,aIf_b,zD,zF,zC,zI,zV,F64.n14,zN,zO]
    exact hk l2 pl2 xp2 xo2 h2 heq.symm px2 f02
   ·rw[zW k1]at heq
    have k1':((l2.length:Int)==(l1.length:Int))=false:=by simp;omega
    have w3:IntKind.i64.wrap (((y.1.num.toNat-(c+1):Nat):Int)+1)=((y.1.num.toNat-c:Nat):Int):=by rw[wrap_in (by omega) (by omega)];omega
    simp only[k1',F64.n16,aIf_b,zE,zD,zC,zH,F64.n15,pBin_add,w3]
    exact step (c,l2,pl2,xp2,xo2) _ h2 (by simp only;omega) ⟨rfl,by simp only;omega,px2,heq,f02⟩
theorem look_env{n:ByteArray}:lookV false (I 0) (getK n (env.map fun x=>(x.1,I x.2)))=I (bndP env n):=by
 rw[<-getK_env]
 cases getK n (env.map fun x=>(x.1,I x.2))<;>rfl
theorem sep_old{α:Type}{f:α->List AV}{sz:Nat}{ty:TypeId}{h:AH}{x z:AV}{l:List α}(a:SlL f sz ty h x l)(b:InS (h.next<=·) z):Sep x z:=by
 intro id off n off' n' e1 e2
 have h1:=b _ _ _ e2
 rcases a with⟨e,_⟩ |⟨j,e,hj⟩
 ·rw[e1]at e;cases e
 ·rw[e1]at e;cases e
  have:=h.lt _ _ hj
  omega
theorem F64_use(hA:ApplyS n0 p xr bk ids qm bm gm rs k)(px:PX n0 h p xr bk ids qm bm gm l pl xp xo)(rt:RT h xr rs)(hy:rs[j]?=some y)(om:h.obj mb=some (oEnv env))(ow:h.obj vw=some (mkO (encW w) 3 69))(or_:h.obj vr=some (mkO (encRA y) 6 42))
  (hu:UseN bk k y.1) (hW:∀id,TW TQ n0 h id\/h.next<=id->W id)
  (he:∀e h',applyP bk (rs.map (·.1)) k y.1.name (y.1.args.map fun a=>bndP env a.name) w place l=.error e->PE n0 xr bk ids qm bm gm h' p e->Fr h h' (TW TQ n0 h)->QR [B false] h')
  (hk:∀l' pl' xp' xo' h',applyP bk (rs.map (·.1)) k y.1.name (y.1.args.map fun a=>bndP env a.name) w place l=.ok l'->PX n0 h' p xr bk ids qm bm gm l' pl' xp' xo'->Fr h h' (TW TQ n0 h)->F64.n2 W QR QN QE QP (.ptr p 0) x2 (.mp mb) (I place) (.ptr vw 0) (I j) h') :
  F64.n13 W QR QN QE QP (.ptr p 0) x2 (.mp mb) (I place) (.ptr vw 0) (I j) (.ptr vr 0) h:=by
 obtain⟨ha,hl⟩:=rt.a y (zP hy)
 simp only[F64.n13,F64.n12,pFld_ptr,lLd_f,or_,ldk_mk,zG,encRA,zA,zB,cellK_some,ha.len.1,ha.len.2,zH]
 unfold F64.n11
 refine vLoop_of (ι:=Nat×AV) (fun i v h'=>v=[.ptr p 0,x2,.mp mb,I place,.ptr vw 0,I j,.ptr vr 0,i.2,y.2,I y.1.args.length,I i.1]/\i.1<=y.1.args.length/\Fr h h' (fun _=>False)/\SlL encI 1 3 h' i.2 ((y.1.args.take i.1).map fun a=>bndP env a.name)/\InS (h.next<=·) i.2) (fun i=>y.1.args.length-i.1) (0,nilS) ⟨rfl,by omega,Fr.refl,by simpa using SlL.nil,fun _ _ _ e=>by cases e⟩ ?_
 rintro K ⟨i,x5⟩ v h1 ⟨rfl,hi,f1,hx,hs⟩ step
 simp only at hi hx hs step
 simp only[F64.g2_,zN,zO,F64.n10,pBin_lss]
 have or1:=f1.ob0 or_
 by_cases hlt:i<y.1.args.length
 ·have hli:(i:Int)<y.1.args.length:=by omega
  have g1:y.1.args[i]?=some y.1.args[i]:=zJ hlt
  have htk:y.1.args.take (i+1)=y.1.args.take i++[y.1.args[i]]:=by rw[List.take_add_one,g1];rfl
  generalize y.1.args[i]=a at *
  simp only[zL hli,F64.n9,aIf_b,zD,zF,zC,zI,F64.n8]
  refine rng_var (ha.fr0 f1) Arg.enc_len (Arg.enc_one a) g1 rfl rfl (fun id hid=>hW id (.inr (zR f1.next hid))) fun vn h2 f2 hvn ov=>?_
  have f02:=f1.tr0 f2
  simp only[F64.n7,pFld_ptr,lLd_f,ov,ldk_mk,zG,Arg.enc,zA,zB,cellK_some]
  refine look_k (enc:=Sb) key9 z3 (f02.ob0 om) fun _=>?_
  rw[look_env]
  have w2:IntKind.i64.wrap ((i:Int)+1)=((i+1:Nat):Int):=by rw[wrap_in (by omega) (by omega)];simp
  refine appv (f:=encI) (t:=bndP env a.name) encI_len (by omega) rfl (by omega) rfl rfl (hx.of_fr f2 fun _ _ h=>h) (fun id off n e=>hW id (.inr (hs id off n e))) (by rw[zZ,yA];omega) fun z h3 hz hzs f3=>?_
  have f03:Fr h h3 fun _=>False:=f02.trans (f3.mono fun j ⟨off,n,e⟩=>.inr (hs j off n e))
  simp only[F64.n6,pBin_add,w2]
  refine step (i+1,z) _ h3 (by simp only;omega) ⟨rfl,by simp only;omega,f03,?_,fun id off n e=>zR f02.next (hzs id off n e)⟩
  rw[htk,List.map_append]
  exact hz
 ·have hnl:¬(i:Int)<y.1.args.length:=by omega
  have e:i=y.1.args.length:=by omega
  rw[e,List.take_length]at hx
  have px1:=px.fr0 f1
  simp only[zK hnl,F64.n9,aIf_b,zE,zD,zC,zH,zV,F64.n5,pFld_ptr,lLd_f,or1,ldk_mk,zG,encRA,zA,zB,cellK_some,zN,zO]
  refine var_ld (f1.ob0 ow) rfl fun _=>?_
  refine⟨TW TQ n0 h1,fun id hs _=>hW id (TW.back (TW.of_fr f1) hs),hA h1 _ _ y.1.name _ x5 w pl place xp xo l px1 (rt.fr0 f1) hx.toR (sep_old px.x hs) ?_ (fun _ h=>h) ?_ ?_⟩
  ·rcases hu with⟨u1,_⟩ |⟨jj,d,u1,u2,u3,u4,_⟩
   ·exact .inl u1
   ·exact .inr ⟨jj,d,u1,u2,u3,by simpa using u4⟩
  ·intro e h2 hb hp f2
   simp only[pUn_not,zT,F64.n4,aIf_b,zD,zF,zC,zI,F64.n3]
   exact he e h2 hb hp (TW.trans (TW.of_fr f1) f2)
  ·intro l2 pl2 xp2 xo2 h2 hb px2 f2
   simp only[pUn_not,zS,F64.n4,aIf_b,zE,zD,zC,zH]
   exact hk l2 pl2 xp2 xo2 h2 hb px2 (TW.trans (TW.of_fr f1) f2)
end
theorem GB.inv{bk:Bk}{k:Nat}{ps:List ByteArray}{r:Row}{l:List Row}(h:GB bk k ps (r::l)):(0<=r.rows/\r.rows<=l.length)/\GB bk k ps (l.drop r.rows.toNat)/\((r.kind=sRepeat/\GB bk k ps (l.take r.rows.toNat))\/(r.kind≠sRepeat/\UseN bk k r)):=by
 cases h with
 |use h0 h1 h2 h3 h4=>exact⟨by omega,by rw[h1];exact h4,.inr ⟨by rw[h0];decide,h2⟩⟩
 |rep h0 h1 h2 h3=>exact⟨h1,h3,.inl ⟨h0,h2⟩⟩
section
variable {n0 p:Nat} {xr:AV} {bk:Bk} {ids:List Nat} {qm bm gm:Nat} {rs:List (Row×AV)} {k:Nat}
theorem bodyS_of(sc:SC bk rs)(hA:ApplyS n0 p xr bk ids qm bm gm rs k)(n:Nat):BodyS n0 p xr bk ids qm bm gm rs k n:=by
 induction n using Nat.strongRecOn with
 |ind n ih=>
 intro h M R a env mb w pl place xp xo l ps px rt hn om hg hM he hk
 apply F64.callsN
 unfold F64.n33
 refine box_var rfl fun vw h1 f1 hvw ow=>?_
 unfold F64.n32 F64.n31
 have hlen:=rt.n
 refine vLoop_of (ι:=Nat×OL×Int×AV×AV) (fun i v h'=>v=[.ptr p 0,I (a+n),.mp mb,I place,.ptr vw 0,I (a+(n-i.1:Nat):Int)]/\i.1<=n/\PX n0 h' p xr bk ids qm bm gm i.2.1 i.2.2.1 i.2.2.2.1 i.2.2.2.2/\GB bk k ps (sg rs (a+(n-i.1)) i.1)/\h'.obj vw=some (mkO (encW w) 3 69) /\
  bodyP bk (rs.map (·.1)) k env w place (sg rs (a+(n-i.1)) i.1) i.2.1=bodyP bk (rs.map (·.1)) k env w place (sg rs a n) l/\Fr h h' (TW TQ n0 h)) (fun i=>i.1) (n,l,pl,xp,xo) ⟨by simp,zU _,px.fr0 f1,by simpa using hg,ow,by simp,TW.of_fr f1⟩ ?_
 rintro K ⟨m,l1,pl1,xp1,xo1⟩ v h2 ⟨rfl,hm,px2,hg2,ow2,heq,f2⟩ step
 simp only at hm px2 hg2 heq step
 have rt2:=rt.frQ f2
 have om2:h2.obj mb=some (oEnv env):=TW.obj f2 om rfl
 have hW2:∀{h3:AH},Fr h h3 (TW TQ n0 h)->∀id,TW TQ n0 h3 id\/h3.next<=id->(M id\/h.next<=id):=fun{h3} f id hid=>hid.elim (fun hid=>(TW.back f hid).elim (fun h=>.inl (hM id h)) .inr) (fun hid=>.inr (zR f.next hid))
 unfold F64.g1_
 simp only[zN,zO,F64.n30,pBin_lss]
 cases m with
 |zero=>
  have e1:decide ((a:Int)+(n-0:Nat)<a+n)=false:=by simp
  rw[sg_0,bodyP_nil]at heq
  simp only[e1,F64.n29,aIf_b,zE,zD,zC,zH,zV,F64.n1]
  simpa using hk l1 pl1 xp1 xo1 h2 heq.symm px2 f2
 |succ m=>
  obtain⟨j,hj⟩:∃j,j=a+(n-(m+1)):=⟨_,rfl⟩
  have ej:(a:Int)+(n-(m+1):Nat)=(j:Int):=by omega
  have e1:decide ((j:Int)<a+n)=true:=by simp;omega
  rw[<-hj]at heq hg2
  obtain⟨y,hy⟩:∃y,rs[j]?=some y:=⟨rs[j]'(by omega),zJ _⟩
  rw[sg_s hy]at heq hg2
  rw[bodyP_cons]at heq
  obtain⟨⟨b0,b1⟩,gd,gk⟩:=hg2.inv
  rw[sg_len (by omega)]at b1
  obtain⟨kk,hkk⟩:∃kk:Nat,y.1.rows=kk:=⟨y.1.rows.toNat,by omega⟩
  have hkm:kk<=m:=by omega
  rw[hkk,zY,sg_take hkm,sg_drop]at heq
  rw[hkk,zY,sg_take hkm]at gk
  rw[hkk,zY,sg_drop]at gd
  have w1:∀x:Int,0<=x/\x<=1000000000->IntKind.i64.wrap x=x:=fun x hx=>wrap_in (by omega) (by omega)
  simp only[e1,ej,F64.n29,aIf_b,zD,zF,zC,zI,F64.n28,pNil_ptr,pFld_ptr,lLd_f,px2.p,ldk_mk,zG,zA,cellK_some]
  refine rng_var rt2.r encRA_len (rt2.one hy) hy rfl rfl (fun id hid=>hW2 f2 id (.inr hid)) fun vr h3 f3 _ or3=>?_
  have f03:=TW.trans f2 (TW.of_fr f3)
  have px3:=px2.fr0 f3
  have hnext:∀l' pl' xp' xo' h',bodyP bk (rs.map (·.1)) k env w place (sg rs (j+1+kk) (m-kk)) l'=bodyP bk (rs.map (·.1)) k env w place (sg rs a n) l->PX n0 h' p xr bk ids qm bm gm l' pl' xp' xo'->Fr h3 h' (TW TQ n0 h3) ->
    F64.n2 (fun id=>M id\/h.next<=id) (retV Try.prog [.tmp 12] R) K (fun(i:Nat) (vs:List AV) (h:AH)=>if i=0 then F64.n1 (fun id=>M id\/h.next<=id) (retV Try.prog [.tmp 12] R) (retV Try.prog [.tmp 12] R) (fun _ _ _=>False) (fun v h=>R (.pan v) h) h else False) (fun v h=>R (.pan v) h) (.ptr p 0) (I (a+n)) (.mp mb) (I place) (.ptr vw 0) (I j) h':=fun l' pl' xp' xo' h' hl' px' f'=>by
   have f04:=TW.trans f03 f'
   simp only[F64.n2,pNil_ptr,pFld_ptr,lLd_f,px'.p,ldk_mk,zG,zA,cellK_some]
   refine rng_fld (k:=4) (rt.frQ f04).r encRA_len hy (by omega) rfl fun _=>?_
   rw[hkk]
   simp only[pBin_add,w1 (1+(kk:Int)) (by omega),w1 ((j:Int)+(1+kk)) (by omega)]
   have e8:j+1+kk=a+(n-(m-kk)):=by omega
   have e9:(j:Int)+(1+kk)=a+(n-(m-kk):Nat):=by omega
   rw[e8]at hl' gd
   exact step (m-kk,l',pl',xp',xo') _ h' (by simp only;omega) ⟨by rw[<-e9],by simp only;omega,px',gd,TW.obj f' (f3.ob0 ow2) rfl,hl',f04⟩
  have e4:(⟨#[114,101,112,101,97,116]⟩:ByteArray)=sRepeat:=rfl
  simp only[F64.n27,pFld_ptr,lLd_f,or3,ldk_mk,zG,encRA,zA,zB,cellK_some,pBin_seql,e4]
  have ow3:=f3.ob0 ow2
  rcases gk with⟨g1,g2⟩ |⟨g1,g2⟩
  ·rw[zX g1]at heq
   simp only[zL g1,F64.n26,aIf_b,zD,zF,zC,zI]
   refine F64_rep (ih kk (by omega)) px3 (rt.frQ f03) (by omega) (TW.obj f03 om rfl) ow3 or3 hkk g2 (hW2 f03) ?_ ?_ (sc.nm y (zP hy))
   ·intro e h4 hb hp f4
    rw[hb]at heq
    simpa using he e h4 heq.symm hp (TW.trans f03 f4)
   ·intro l' pl' xp' xo' h4 hb px4 f4
    rw[hb]at heq
    exact hnext l' pl' xp' xo' h4 heq px4 f4
  ·rw[zW g1]at heq
   simp only[zK g1,F64.n26,aIf_b,zE,zD,zC,zH]
   refine F64_use hA px3 (rt.frQ f03) hy (TW.obj f03 om rfl) ow3 or3 g2 (hW2 f03) ?_ ?_
   ·intro e h4 hb hp f4
    rw[hb]at heq
    simpa using he e h4 heq.symm hp (TW.trans f03 f4)
   ·intro l' pl' xp' xo' h4 hb px4 f4
    rw[hb]at heq
    exact hnext l' pl' xp' xo' h4 heq px4 f4
end
end
section
open Go.Ab
attribute [-simp] eAlloc_d eStore_f
section
variable {n0 p:Nat} {xr:AV} {bk:Bk} {ids:List Nat} {qm bm gm:Nat} {rs:List (Row×AV)} {k:Nat}
theorem applyP_none{bk:Bk}{L:List Row}{nm:ByteArray}{qs:List Int}{w:Wsh}{pl:Int}{l:OL}(h:dfnOf bk.ds nm=none):applyP bk L k nm qs w pl l=putP l (mkOp 1 nm qs 0 w) pl:=by
 unfold applyP
 rw[dfnAt_none h]
theorem applyP_some{bk:Bk}{L:List Row}{d:Dfn}{j:Nat}{qs:List Int}{w:Wsh}{pl:Int}{l:OL}(a:BkI bk)(hd:bk.ds[j]?=some d)(hj:j<k):applyP bk L k d.name qs w pl l=if d.ops=0 then .ok l else bodyP bk L j (d.params.zip qs) w pl (bodyOf L d) l:=by
 unfold applyP
 rw[dfnAt_ix a hd]
 simp only[hd,zX hj]
theorem applyS_of(sc:SC bk rs)(hB:∀j n,j<k->BodyS n0 p xr bk ids qm bm gm rs j n):ApplyS n0 p xr bk ids qm bm gm rs k:=by
 intro h M R nm qs xq w pl place xp xo l px rt hq sep hname hM he hk
 apply F41.callsN
 unfold F41.n17
 refine box_var rfl fun vw h1 f1 hvw ow=>?_
 have px1:=px.fr0 f1
 have hW1:∀{h3:AH},Fr h h3 (TW TQ n0 h)->∀id,TW TQ n0 h3 id->(M id\/h.next<=id):=fun{h3} f id hid=>(TW.back f hid).elim (fun h=>.inl (hM id h)) .inr
 simp only[F41.n16,pNil_ptr,pFld_ptr,lLd_f,px1.p,ldk_mk,zG,zA,zB,cellK_some]
 refine look_k (enc:=Sb) key9 z87 px1.m.g fun _=>?_
 rcases hname with hname |⟨j,d,hj,hd,hdn,hlen⟩
 ·rw[applyP_none hname]at he hk
  rcases getK_dfn (n:=nm) px1.m.len with⟨e1,_⟩ |⟨k',d',id,_,e2,_,_⟩
  ·rw[e1]
   simp only[lookV,zV,pExt_tup,zA,zB,cellK_some,F41.n15,pUn_not,zT,F41.n14,aIf_b,zD,zF,zC,zI,F41.n13]
   refine⟨[I 1,Sb nm,xq,I 0,B false,U 0,U 0],?_,?_⟩
   ·simp[aFill,putCells,avC_int,avC_str,hq.one.2]
   ·refine var_ld ow rfl fun _=>?_
    refine⟨TW TQ n0 h1,fun id hs _=>hW1 (TW.of_fr f1) id hs,put_ok px1 (hq.fr0 f1) sep (fun _ h=>h) ?_ ?_⟩
    ·intro h2 hb hp f2
     simpa using he _ h2 hb hp (TW.trans (TW.of_fr f1) f2)
    ·intro l' pl' xp' xo' h2 hb px2 f2
     simpa using hk l' pl' xp' xo' h2 hb px2 (TW.trans (TW.of_fr f1) f2)
  ·rw[hname]at e2;cases e2
 ·subst hdn
  rw[applyP_some sc.bf.i hd hj]at he hk
  obtain⟨id,i1,i2,xd,od,hxd⟩:=look_ix px1.m sc.bf.i hd
  rw[i2]
  simp only[lookV,zV,pExt_tup,zA,zB,cellK_some,F41.n15,pUn_not,zS,F41.n14,aIf_b,zE,zD,zC,zH,F41.n12,pNil_ptr,pFld_ptr,lLd_f,od,ldk_mk,zG,pBin_eql]
  by_cases k1:d.ops=0
  ·rw[zX k1]at hk
   have k1':(d.ops==0)=true:=by simp[k1]
   simp only[k1',F41.n11,aIf_b,zD,zF,zC,zI,F41.n10]
   simpa using hk l pl xp xo h1 rfl px1 (TW.of_fr f1)
  ·rw[zW k1]at he hk
   have k1':(d.ops==0)=false:=by simpa using k1
   simp only[k1',F41.n11,aIf_b,zE,zD,zC,zH,F41.n9]
   refine mk_k (enc:=Sb) fun mb h2 om2 hmb f2=>?_
   have f02:=f1.tr0 f2
   have od2:=f2.ob0 od
   have hxd2:SlL encS 1 9 h2 xd d.params:=hxd.of_fr f2 fun _ _ h=>h
   simp only[F41.n8,pNil_ptr,pFld_ptr,lLd_f,od2,ldk_mk,zG,zA,zB,cellK_some,hxd2.toR.len.1,hxd2.toR.len.2,zH]
   have hpl:=(sc.bf.i.ok.ds d (zP hd)).1
   have hdup:=(sc.bf.a d (zP hd)).2
   have hq2:SlR encI 1 3 h2 xq qs:=hq.fr0 f02
   unfold F41.n7
   refine vLoop_of (ι:=Nat) (fun i v h'=>v=[.ptr p 0,xq,I place,.ptr vw 0,.ptr id 0,.mp mb,xd,I d.params.length,I i]/\i<=d.params.length/\Fr h2 h' (·=mb)/\h'.obj mb=some (oEnv ((d.params.zip qs).take i))) (fun i=>d.params.length-i) 0 ⟨rfl,by omega,Fr.refl,by rw[List.take_zero];exact om2⟩ ?_
   rintro K i v h3 ⟨rfl,hi,f3,om3⟩ step
   have keep:∀{x:Nat}{o:AO},h2.obj x=some o->o.ty≠120->h3.obj x=some o:=fun ho hne=>f3.obj ho (fun e=>by subst e;rw[om2]at ho;cases ho;exact hne rfl)
   have hxd3:SlR encS 1 9 h3 xd d.params:=hxd2.toR.fr f3 fun x o ho ht e=>by subst e;rw[om2]at ho;cases ho;exact absurd (ht rfl) (show(120:Nat)≠9 by decide)
   have hq3:SlR encI 1 3 h3 xq qs:=hq2.fr f3 fun x o ho ht e=>by subst e;rw[om2]at ho;cases ho;exact absurd (ht rfl) (show(120:Nat)≠3 by decide)
   have fz:Fr h h3 fun _=>False:=f02.trans (f3.mono fun x e=>.inr (by subst e;exact zR f1.next hmb))
   simp only[F41.g1_,zN,zO,F41.n6,pBin_lss]
   by_cases hlt:i<d.params.length
   ·have hli:(i:Int)<d.params.length:=by omega
    have g1:d.params[i]?=some d.params[i]:=zJ hlt
    have g2:qs[i]?=some (qs[i]'(by omega)):=zJ _
    have tk:(d.params.zip qs).take (i+1)=(d.params.zip qs).take i++[(d.params[i],qs[i]'(by omega))]:=by
     rw[List.take_add_one,show(d.params.zip qs)[i]?=some (d.params[i],qs[i]'(by omega)) from List.getElem?_zip_eq_some.2 ⟨g1,g2⟩];rfl
    have hno:getK d.params[i] (((d.params.zip qs).take i).map fun x=>(x.1,I x.2))=none:=by
     have hm:memB d.params[i] (d.params.take i)=false:=by
      cases hx:memB d.params[i] (d.params.take i) with
      |false=>rfl
      |true=>rw[show dupS d.params=true from dupG_at g1 hx]at hdup;cases hdup
     have h5:=getK_isSome (n:=d.params[i]) (l:=((d.params.zip qs).take i).map fun x=>(x.1,I x.2))
     have h6:(((d.params.zip qs).take i).map fun x=>(x.1,I x.2)).map (·.1)=d.params.take i:=by
      rw[List.map_map]
      show((d.params.zip qs).take i).map (fun x=>x.1)=_
      rw[List.map_take,List.map_fst_zip (by omega)]
     rw[h6,hm]at h5
     cases hy:getK d.params[i] (((d.params.zip qs).take i).map fun x=>(x.1,I x.2)) with
     |none=>rfl
     |some _=>rw[hy]at h5;cases h5
    have w1:IntKind.i64.wrap ((i:Int)+1)=((i+1:Nat):Int):=by rw[wrap_in (by omega) (by omega)];simp
    simp only[zL hli,F41.n5,aIf_b,zD,zF,zC,zI,F41.n4]
    refine rng_one hxd3 (fun _=>rfl) g1 rfl fun _=>?_
    simp only[F41.n3]
    refine rng_one hq3 (fun _=>rfl) g2 rfl fun _=>?_
    refine set_k (enc:=Sb) (n:=d.params[i]) key9 (.inr (zR f1.next hmb)) om3 hno fun h4 om4 f4=>?_
    simp only[F41.n2,pBin_add,w1]
    refine step (i+1) _ h4 (by omega) ⟨rfl,by omega,f3.trans (f4.mono fun _ h=>.inl h),?_⟩
    rw[tk,om4,oEnv,List.map_append]
    rfl
   ·have hnl:¬(i:Int)<d.params.length:=by omega
    have e:i=d.params.length:=by omega
    rw[e,List.take_of_length_le (by rw[List.length_zip];omega)]at om3
    obtain⟨a,n,ha,hn,han,hgb⟩:=sc.dk j d hd
    have px3:=px.fr0 fz
    have hbo:bodyOf (rs.map (·.1)) d=sg rs a n:=by
     unfold bodyOf
     rw[ha,hn,sgR_sg]
     congr 1
     omega
    rw[hbo]at he hk
    have od3:=keep od2 (show(91:Nat)≠120 by decide)
    have ow3:=keep (f2.ob0 ow) (show(69:Nat)≠120 by decide)
    simp only[zK hnl,F41.n5,aIf_b,zE,zD,zC,zH,zV,F41.n1,zN,zO,pNil_ptr,pFld_ptr,lLd_f,od3,ldk_mk,zG,zA,zB,cellK_some,ha,hn]
    refine var_ld ow3 rfl fun _=>?_
    refine⟨TW TQ n0 h3,fun id hs _=>hW1 (TW.of_fr fz) id hs,hB j n hj h3 _ _ a _ mb w pl place xp xo l d.params px3 (rt.fr0 fz) (by simpa using han) om3 (by rw[sgR_sg];exact hgb) (fun _ h=>h) ?_ ?_⟩
    ·intro e h4 hb hp f4
     simpa using he e h4 hb hp (TW.trans (TW.of_fr fz) f4)
    ·intro l' pl' xp' xo' h4 hb px4 f4
     simpa using hk l' pl' xp' xo' h4 hb px4 (TW.trans (TW.of_fr fz) f4)
theorem applyS_all(sc:SC bk rs):ApplyS n0 p xr bk ids qm bm gm rs k:=by
 induction k using Nat.strongRecOn with
 |ind k ih=>exact applyS_of sc fun j n hj=>bodyS_of sc (ih j hj) n
end
end
section
open Go.Ab
attribute [-simp] eAlloc_d eStore_f
theorem pBin_andU{t:TypeId}{c:Bool}{x y:Int}{K:AV->Prop}:pBin Try.prog .and t c (U x) (U y) K=K (U (andU x y)):=by
 simp[pBin,andU]
theorem pBin_orU{t:TypeId}{c:Bool}{x y:Int}{K:AV->Prop}:pBin Try.prog .or t c (U x) (U y) K=K (U (orU x y)):=by
 simp[pBin,orU]
theorem pBin_subU{t:TypeId}{c:Bool}{x y:Int}{K:AV->Prop}:pBin Try.prog .sub t c (U x) (U y) K=K (U (IntKind.u64.wrap (x-y))):=by
 simp[pBin]
theorem pBin_neqU{t:TypeId}{c:Bool}{x y:Int}{K:AV->Prop}:pBin Try.prog .neq t c (U x) (U y) K=K (B (x != y)):=by
 simp[pBin]
theorem pCnv_u{n:Int}{K:AV->Prop}:pCnv (some .u64) (I n) K=K (U (IntKind.u64.wrap n)):=rfl
def DoS(n0 p:Nat)(xr:AV)(bk:Bk)(ids:List Nat)(qm bm gm:Nat)(rs:List (Row×AV))(n:Nat):Prop:=
 ∀(h:AH)(M:Nat->Prop)(R:AE->AH->Prop)(a:Nat)(w:Wsh)(pl:Int)(xp xo:AV)(l:OL),PX n0 h p xr bk ids qm bm gm l pl xp xo->RT h xr rs->a+n<=rs.length->GO bk (sg rs a n)->(∀id,TW TQ n0 h id->M id) ->
  (∀e h',doP bk (rs.map (·.1)) w (sg rs a n) l=.error e->PE n0 xr bk ids qm bm gm h' p e->Fr h h' (TW TQ n0 h)->R (.ret (B false)) h') ->
  (∀l' pl' xp' xo' h',doP bk (rs.map (·.1)) w (sg rs a n) l=.ok l'->PX n0 h' p xr bk ids qm bm gm l' pl' xp' xo'->Fr h h' (TW TQ n0 h)->R (.ret (B true)) h') ->
  ACalls Try.prog 22 [.ptr p 0,I a,I (a+n),.agg (encW w)] h M R
section
variable {W:Nat->Prop} {QR QN:VK} {QE:Nat->VK} {QP:AV->AH->Prop} {h:AH} {n0 p vw vr:Nat} {xr xp xo x2:AV} {bk:Bk} {ids:List Nat} {qm bm gm:Nat} {l:OL} {pl:Int} {rs:List (Row×AV)} {w:Wsh} {y:Row×AV} {j kk:Nat} {one:Except Int OL}
structure DK (W:Nat->Prop) (QR QN:VK) (QE:Nat->VK) (QP:AV->AH->Prop) (h:AH) (n0 p vw vr:Nat) (xr xp xo x2:AV) (bk:Bk) (ids:List Nat) (qm bm gm:Nat) (l:OL) (pl:Int) (rs:List (Row×AV)) (w:Wsh) (y:Row×AV) (j:Nat) (one:Except Int OL):Prop where
 sc:SC bk rs
 px:PX n0 h p xr bk ids qm bm gm l pl xp xo
 rt:RT h xr rs
 hy:rs[j]?=some y
 ow:h.obj vw=some (mkO (encW w) 3 69)
 or_:h.obj vr=some (mkO (encRA y) 6 42)
 hW:∀id,TW TQ n0 h id\/h.next<=id->W id
 he:∀e h',one=.error e->PE n0 xr bk ids qm bm gm h' p e->Fr h h' (TW TQ n0 h)->QR [B false] h'
 hk:∀l' pl' xp' xo' h',one=.ok l'->PX n0 h' p xr bk ids qm bm gm l' pl' xp' xo'->Fr h h' (TW TQ n0 h)->F22.n2 W QR QN QE QP (.ptr p 0) x2 (.ptr vw 0) (I j) h'
theorem F22_f(k:DK W QR QN QE QP h n0 p vw vr xr xp xo x2 bk ids qm bm gm l pl rs w y j one){e:Int}{h':AH}(h1:one=.error e)(h2:PE n0 xr bk ids qm bm gm h' p e)(h3:Fr h h' (TW TQ n0 h)):F22.n5 W QR QN QE QP (.ptr p 0) x2 (.ptr vw 0) (I j) (B false) h':=by
 simp only[F22.n5,pUn_not,zT,F22.n4,aIf_b,zD,zF,zC,zI,F22.n3]
 exact k.he e h' h1 h2 h3
theorem F22_t(k:DK W QR QN QE QP h n0 p vw vr xr xp xo x2 bk ids qm bm gm l pl rs w y j one){l':OL}{pl':Int}{xp' xo':AV}{h':AH}(h1:one=.ok l')(h2:PX n0 h' p xr bk ids qm bm gm l' pl' xp' xo')(h3:Fr h h' (TW TQ n0 h)):F22.n5 W QR QN QE QP (.ptr p 0) x2 (.ptr vw 0) (I j) (B true) h':=by
 simp only[F22.n5,pUn_not,zS,F22.n4,aIf_b,zE,zD,zC,zH]
 exact k.hk l' pl' xp' xo' h' h1 h2 h3
theorem F22_rep(hB:DoS n0 p xr bk ids qm bm gm rs kk)(k:DK W QR QN QE QP h n0 p vw vr xr xp xo x2 bk ids qm bm gm l pl rs w y j (repP (doP bk (rs.map (·.1)) w (sg rs (j+1) kk)) y.1.num.toNat l))(hj:j+1+kk<=rs.length)(hrw:y.1.rows=kk)(hg:GO bk (sg rs (j+1) kk)) :
  F22.n16 W QR QN QE QP (.ptr p 0) x2 (.ptr vw 0) (I j) (.ptr vr 0) (B true) h:=by
 unfold F22.n16 F22.n15
 have hlen:=k.rt.n
 have hnum:=k.sc.nm y (zP k.hy)
 refine vLoop_of (ι:=(Nat×Bool)×OL×Int×AV×AV) (fun i v h'=>v=[.ptr p 0,x2,.ptr vw 0,I j,.ptr vr 0,B i.1.2,I (y.1.num.toNat-i.1.1:Nat)]/\i.1.1<=y.1.num.toNat/\PX n0 h' p xr bk ids qm bm gm i.2.1 i.2.2.1 i.2.2.2.1 i.2.2.2.2 /\
  (i.1.2=true->repP (doP bk (rs.map (·.1)) w (sg rs (j+1) kk)) i.1.1 i.2.1=repP (doP bk (rs.map (·.1)) w (sg rs (j+1) kk)) y.1.num.toNat l) /\
  (i.1.2=false->repP (doP bk (rs.map (·.1)) w (sg rs (j+1) kk)) y.1.num.toNat l=.error i.2.2.1)/\Fr h h' (TW TQ n0 h)) (fun i=>i.1.1) ((y.1.num.toNat,true),l,pl,xp,xo) ⟨by simp,zU _,k.px,fun _=>rfl,(fun h=>by cases h),TW.of_fr Fr.refl⟩ ?_
 rintro K ⟨⟨c,fine⟩,l1,pl1,xp1,xo1⟩ v h1 ⟨rfl,hc,px1,heq,herr,f1⟩ step
 simp only at hc px1 heq herr step
 have or1:h1.obj vr=some (mkO (encRA y) 6 42):=TW.obj f1 k.or_ rfl
 have ow1:h1.obj vw=some (mkO (encW w) 3 69):=TW.obj f1 k.ow rfl
 have fin:(fine=true->repP (doP bk (rs.map (·.1)) w (sg rs (j+1) kk)) y.1.num.toNat l=.ok l1)->F22.n5 W QR QN QE QP (.ptr p 0) x2 (.ptr vw 0) (I j) (B fine) h1:=fun hf=>by
  cases fine with
  |true=>exact F22_t k (hf rfl) px1 f1
  |false=>exact F22_f k (herr rfl) ⟨_,_,_,px1⟩ f1
 simp only[F22.g2_,zN,zO,F22.n14,pFld_ptr,lLd_f,or1,ldk_mk,zG,encRA,zA,zB,cellK_some,pBin_lss]
 cases c with
 |zero=>
  have e1:decide (((y.1.num.toNat-0:Nat):Int)<y.1.num)=false:=by simp;omega
  simp only[repP]at heq
  simp only[e1,F22.n13,aIg_b,zS,zE,zD,zC,zH,F22.n12,pPick_b,if_false,F22.n11,aIf_b,zV,zN,zO]
  exact fin fun hf=>(heq hf).symm
 |succ c=>
  have e1:decide (((y.1.num.toNat-(c+1):Nat):Int)<y.1.num)=true:=by simp;omega
  simp only[e1,F22.n13,aIg_b,zS,zD,zF,zC,zI,F22.n12,pPick_b,zV,F22.n11]
  cases fine with
  |false=>
   simp only[aIf_b,zE,zD,zC,zH,zV,zN,zO]
   exact fin (fun h=>by cases h)
  |true=>
   have w1:∀x:Int,0<=x/\x<=1000000000->IntKind.i64.wrap x=x:=fun x hx=>wrap_in (by omega) (by omega)
   have heq:=heq rfl
   simp only[repP]at heq
   simp only[aIf_b,zD,zF,zC,zI,F22.n10,pNil_ptr,pFld_ptr,lLd_f,px1.p,ldk_mk,zG,Nat.reduceAdd,zA,zB,cellK_some,px1.opsLen.1,px1.opsLen.2,zH,F22.n9,or1,encRA,hrw,pBin_add,w1 ((j:Int)+1) (by omega),w1 ((j:Int)+1+kk) (by omega)]
   refine var_ld ow1 rfl fun _=>?_
   have w3:IntKind.i64.wrap (((y.1.num.toNat-(c+1):Nat):Int)+1)=((y.1.num.toNat-c:Nat):Int):=by rw[wrap_in (by omega) (by omega)];omega
   have beh:∀(fine':Bool) l2 pl2 xp2 xo2 h2,PX n0 h2 p xr bk ids qm bm gm l2 pl2 xp2 xo2->Fr h h2 (TW TQ n0 h) ->
     (fine'=true->(if l2.length=l1.length then Except.ok l2 else repP (doP bk (rs.map (·.1)) w (sg rs (j+1) kk)) c l2)=repP (doP bk (rs.map (·.1)) w (sg rs (j+1) kk)) y.1.num.toNat l) ->
     (fine'=false->repP (doP bk (rs.map (·.1)) w (sg rs (j+1) kk)) y.1.num.toNat l=.error pl2) ->
     F22.n8 W QR K (fun(i:Nat) (vs:List AV) (h:AH)=>if i=3 then F22.n5 W QR QN QE QP (vs.getD 0 noA) (vs.getD 1 noA) (vs.getD 2 noA) (vs.getD 3 noA) (vs.getD 4 noA) h else if i=2 then F22.n5 W QR QN QE QP (vs.getD 0 noA) (vs.getD 1 noA) (vs.getD 2 noA) (vs.getD 3 noA) (vs.getD 4 noA) h else if i=1 then F22.n2 W QR QN QE QP (vs.getD 0 noA) (vs.getD 1 noA) (vs.getD 2 noA) (vs.getD 3 noA) h else QE i vs h) QP (.ptr p 0) x2 (.ptr vw 0) (I j) (.ptr vr 0) (B fine') (I (y.1.num.toNat-(c+1):Nat)) (I l1.length) h2:=fun fine' l2 pl2 xp2 xo2 h2 px2 f2 hq hf=>by
    simp only[F22.n8,pNil_ptr,pFld_ptr,lLd_f,px2.p,ldk_mk,zG,Nat.reduceAdd,zA,zB,cellK_some,px2.opsLen.1,px2.opsLen.2,zH,pBin_eql]
    by_cases k1:l2.length=l1.length
    ·have k1':((l2.length:Int)==(l1.length:Int))=true:=by rw[k1];simp
     simp only[k1',F22.n7,aIf_b,zD,zF,zC,zI,zV,zN,zO]
     cases fine' with
     |true=>
      have:=hq rfl
      rw[zX k1]at this
      exact F22_t k this.symm px2 f2
     |false=>exact F22_f k (hf rfl) ⟨_,_,_,px2⟩ f2
    ·have k1':((l2.length:Int)==(l1.length:Int))=false:=by simp;omega
     simp only[k1',F22.n7,aIf_b,zE,zD,zC,zH,F22.n6,pBin_add,w3]
     refine step ((c,fine'),l2,pl2,xp2,xo2) _ h2 (by simp only;omega) ⟨rfl,by simp only;omega,px2,fun hh=>?_,hf,f2⟩
     have:=hq hh
     rwa [zW k1]at this
   refine⟨TW TQ n0 h1,fun id hs _=>k.hW id (TW.back f1 hs),hB h1 _ _ (j+1) w pl1 xp1 xo1 l1 px1 (k.rt.frQ f1) hj hg (fun _ h=>h) ?_ ?_⟩
   ·intro e h2 hb hp f2
    rw[hb]at heq
    obtain⟨l2,xp2,xo2,px2⟩:=hp
    exact beh false l2 e xp2 xo2 h2 px2 (TW.trans f1 f2) (fun h=>by cases h) (fun _=>heq.symm)
   ·intro l2 pl2 xp2 xo2 h2 hb px2 f2
    rw[hb]at heq
    exact beh true l2 pl2 xp2 xo2 h2 px2 (TW.trans f1 f2) (fun _=>heq) (fun h=>by cases h)
end
end
section
open Go.Ab
attribute [-simp] eAlloc_d eStore_f
theorem bldOp2{xq:AV}(hq:avCells xq=some [xq]){k b:Int}:aFill (fun i=>[(0,1),(1,1),(2,1),(3,1),(4,1),(5,1),(6,1)][i]?) ([Value.int .i64 0,.string ⟨#[]⟩,.slice none 0 0,.int .i64 0,.bool false,.int .u64 0,.int .u64 0].map .sc) [(0,I k),(2,xq),(3,I b)]=some [I k,Sb ⟨#[]⟩,xq,I b,B false,U 0,U 0]:=by
 simp[aFill,putCells,avC_int,avC_str,hq]
theorem bldOp3{xq:AV}(hq:avCells xq=some [xq]){k:Int}:aFill (fun i=>[(0,1),(1,1),(2,1),(3,1),(4,1),(5,1),(6,1)][i]?) ([Value.int .i64 0,.string ⟨#[]⟩,.slice none 0 0,.int .i64 0,.bool false,.int .u64 0,.int .u64 0].map .sc) [(0,I k),(2,xq)]=some [I k,Sb ⟨#[]⟩,xq,I 0,B false,U 0,U 0]:=by
 simp[aFill,putCells,avC_int,avC_str,hq]
theorem var_ldI{K:AV->Nat->Prop}{cs:List AV}{vn sz:Nat}{ty:TypeId}{h:AH}(ho:h.obj vn=some (mkO cs sz ty))(hc:cs.length=sz)(hK:K (.agg cs) vn):lLd (some true) (some sz) (.ptr vn 0) h K:=by
 simp only[lLdn_f,ho,ldnk_mk,zG,List.drop_zero]
 refine⟨by omega,?_⟩
 rw[List.take_of_length_le (by omega)];exact hK
theorem slr_cut{α:Type}{f:α->List AV}{sz:Nat}{ty:TypeId}{h:AH}{x:AV}{a:α}{r:List α}(hl:SlR f sz ty h x (a::r)):∃id,x=.sl id 0 (a::r).length/\SlR f sz ty h (.sl id 0 1) [a]:=by
 rcases hl with⟨_,e⟩ |⟨_,_,_,e⟩ |⟨id,rest,ro,ty',e1,e2,e3⟩
 ·cases e
 ·cases e
 ·exact⟨id,e1,.inr (.inr ⟨id,r.flatMap f++rest,ro,ty',rfl,e2,by rw[e3];simp⟩)⟩
theorem locP_bd{l:List Reg}{a:Arg}(hs:∀r∈l,1<=r.size/\0<=r.from_/\r.from_+r.size<=totalR l)(ht:totalR l<=64)(h:atP l a=0):∃g,regOf l a.name=some g/\IntKind.i64.wrap (g.from_+a.index)=locP l a:=by
 obtain⟨g,hg,i0,i1⟩:=atP_0 h
 have:=hs g (List.mem_of_find?_eq_some hg)
 refine⟨g,hg,?_⟩
 unfold locP
 rw[hg]
 exact wrap_in (by omega) (by omega)
section
variable {W:Nat->Prop} {QR QN:VK} {QE:Nat->VK} {QP:AV->AH->Prop} {h:AH} {n0 p vw vr:Nat} {xr xp xo x2:AV} {bk:Bk} {ids:List Nat} {qm bm gm:Nat} {l:OL} {pl:Int} {rs:List (Row×AV)} {w:Wsh} {y:Row×AV} {j kk:Nat} {one:Except Int OL}
theorem DK.loc(k:DK W QR QN QE QP h n0 p vw vr xr xp xo x2 bk ids qm bm gm l pl rs w y j one){M:Nat->Prop}{R:AE->AH->Prop}{x1:AV}{args:List Arg}(ha:SlR Arg.enc 2 44 h x1 args)(hl:args.length<=100000000)(hat:∀a∈args,atP bk.qs a=0)
  (hR:∀y h',SlL encI 1 3 h' y (args.map (locP bk.qs))->Sep xp y->Fr h h' (fun _=>False)->R (.ret y) h'):ACalls Try.prog 42 [.ptr p 0,x1] h M R:=
 located_ok k.px.p rfl k.px.m k.sc.bf.i.ok ha hl hat fun y h' h1 h2 h3=>hR y h' h1 (sep_old k.px.x h2) h3
theorem F22_use(k:DK W QR QN QE QP h n0 p vw vr xr xp xo x2 bk ids qm bm gm l pl rs w y j (applyP bk (rs.map (·.1)) bk.ds.length y.1.name (y.1.args.map (locP bk.qs)) w y.1.place l))(hu:UseN bk bk.ds.length y.1)(hat:∀a∈y.1.args,atP bk.qs a=0) :
  F22.n23 W QR QN QE QP (.ptr p 0) x2 (.ptr vw 0) (I j) (.ptr vr 0) h:=by
 obtain⟨ha,hl⟩:=k.rt.a y (zP k.hy)
 unfold F22.n23
 refine⟨fun i=>if i=7 then vw else vr,fun i _=>by show h.obj (if i=7 then vw else vr)≠none;split<;>simp[k.ow,k.or_],?_⟩
 simp only[pFld_ptr,lLd_f,k.or_,ldk_mk,zG,encRA,zA,zB,cellK_some]
 refine⟨by simp,?_⟩
 refine var_ldI k.ow rfl ⟨rfl,⟨by simp,?_⟩⟩
 refine⟨fun _=>False,fun _ h=>h.elim,k.loc ha hl hat fun z h1 hz hsep f1=>?_⟩
 refine⟨TW TQ n0 h1,fun id hs _=>k.hW id (TW.back (TW.of_fr f1) hs),applyS_all (k:=bk.ds.length) k.sc h1 _ _ y.1.name _ z w pl y.1.place xp xo l (k.px.fr0 f1) (k.rt.fr0 f1) hz.toR hsep ?_ (fun _ h=>h) ?_ ?_⟩
 ·rcases hu with⟨u1,_⟩ |⟨jj,d,u1,u2,u3,u4,_⟩
  ·exact .inl u1
  ·exact .inr ⟨jj,d,u1,u2,u3,by simpa using u4⟩
 ·intro e h2 hb hp f2
  exact F22_f k hb hp (TW.trans (TW.of_fr f1) f2)
 ·intro l2 pl2 xp2 xo2 h2 hb px2 f2
  exact F22_t k hb px2 (TW.trans (TW.of_fr f1) f2)
theorem F22_reset(k:DK W QR QN QE QP h n0 p vw vr xr xp xo x2 bk ids qm bm gm l pl rs w y j (putP l (mkOp 3 ByteArray.empty (y.1.args.map (locP bk.qs)) 0 w) y.1.place))(hat:∀a∈y.1.args,atP bk.qs a=0) :
  F22.n26 W QR QN QE QP (.ptr p 0) x2 (.ptr vw 0) (I j) (.ptr vr 0) h:=by
 obtain⟨ha,hl⟩:=k.rt.a y (zP k.hy)
 unfold F22.n26
 refine⟨fun i=>if i=6 then vw else vr,fun i _=>by show h.obj (if i=6 then vw else vr)≠none;split<;>simp[k.ow,k.or_],?_⟩
 simp only[pFld_ptr,lLd_f,k.or_,ldk_mk,zG,encRA,zA,zB,cellK_some]
 refine var_ldI k.ow rfl ⟨rfl,⟨by simp,?_⟩⟩
 refine⟨fun _=>False,fun _ h=>h.elim,k.loc ha hl hat fun z h1 hz hsep f1=>?_⟩
 refine⟨_,bldOp3 hz.toR.one.2,?_⟩
 refine⟨TW TQ n0 h1,fun id hs _=>k.hW id (TW.back (TW.of_fr f1) hs),put_ok (k.px.fr0 f1) hz.toR hsep (fun _ h=>h) ?_ ?_⟩
 ·intro h2 hb hp f2
  exact F22_f k hb hp (TW.trans (TW.of_fr f1) f2)
 ·intro l2 pl2 xp2 xo2 h2 hb px2 f2
  exact F22_t k hb px2 (TW.trans (TW.of_fr f1) f2)
theorem F22_meas{a b:Arg}(hab:y.1.args=[a,b])(k:DK W QR QN QE QP h n0 p vw vr xr xp xo x2 bk ids qm bm gm l pl rs w y j (putP l (mkOp 2 ByteArray.empty [locP bk.qs a] (locP bk.bs b) w) y.1.place))(h0:atP bk.qs a=0)(h1:atP bk.bs b=0) :
  F22.n25 W QR QN QE QP (.ptr p 0) x2 (.ptr vw 0) (I j) (.ptr vr 0) h:=by
 obtain⟨ha,hl⟩:=k.rt.a y (zP k.hy)
 rw[hab]at ha
 obtain⟨g,hg,w1⟩:=locP_bd k.sc.bf.i.ok.sb k.sc.bf.i.ok.tb.2 h1
 simp only[F22.n25,pNil_ptr,pFld_ptr,lLd_f,k.px.p,k.or_,ldk_mk,zG,encRA,zA,zB,cellK_some]
 refine rng_fld (i:=1) (k:=0) ha Arg.enc_len rfl (by omega) rfl fun _=>?_
 refine look_k (enc:=Sb) key9 z93 k.px.m.b fun _=>?_
 rw[getK_reg,hg]
 simp only[yB,lookV,zE,if_false,encG]
 refine⟨_,rfl,?_⟩
 refine rng_fld (i:=1) (k:=1) ha Arg.enc_len rfl (by omega) rfl fun _=>?_
 simp only[pBin_add,w1]
 obtain⟨id,e1,hcut⟩:=slr_cut ha
 unfold F22.n24
 refine⟨fun i=>if i=8 then vw else vr,fun i _=>by show h.obj (if i=8 then vw else vr)≠none;split<;>simp[k.ow,k.or_],?_⟩
 simp only[pFld_ptr,lLd_f,k.or_,ldk_mk,zG,encRA,zA,zB,cellK_some]
 rw[e1]
 refine cut_ok (n:=1) (by simp) ?_
 refine var_ldI k.ow rfl ⟨rfl,⟨by simp,?_⟩⟩
 refine⟨fun _=>False,fun _ h=>h.elim,k.loc hcut (by simp) (fun c hc=>by have:=List.mem_singleton.1 hc;subst this;exact h0) fun z h1 hz hsep f1=>?_⟩
 refine⟨_,bldOp2 hz.toR.one.2,?_⟩
 refine⟨TW TQ n0 h1,fun id hs _=>k.hW id (TW.back (TW.of_fr f1) hs),put_ok (k.px.fr0 f1) hz.toR hsep (fun _ h=>h) ?_ ?_⟩
 ·intro h2 hb hp f2
  exact F22_f k hb hp (TW.trans (TW.of_fr f1) f2)
 ·intro l2 pl2 xp2 xo2 h2 hb px2 f2
  exact F22_t k hb px2 (TW.trans (TW.of_fr f1) f2)
theorem F22_if{g:Reg}(hB:DoS n0 p xr bk ids qm bm gm rs kk)(hgr:regOf bk.bs y.1.name=some g)(k:DK W QR QN QE QP h n0 p vw vr xr xp xo x2 bk ids qm bm gm l pl rs w y j (match wishIn w g y.1.num with |none=>.ok l |some w'=>doP bk (rs.map (·.1)) w' (sg rs (j+1) kk) l))
  (hj:j+1+kk<=rs.length) (hrw:y.1.rows=kk) (hg:GO bk (sg rs (j+1) kk)):F22.n22 W QR QN QE QP (.ptr p 0) x2 (.ptr vw 0) (I j) (.ptr vr 0) h:=by
 have hlen:=k.rt.n
 simp only[F22.n22,pNil_ptr,pFld_ptr,lLd_f,k.px.p,k.or_,ldk_mk,zG,encRA,zA,zB,cellK_some]
 refine look_k (enc:=Sb) key9 z93 k.px.m.b fun _=>?_
 rw[getK_reg,hgr]
 simp only[yB,lookV,zE,if_false,encG]
 have hs:=k.sc.bf.i.ok.sb g (List.mem_of_find?_eq_some hgr)
 refine new_var (cs:=[I g.from_,I g.size]) rfl rfl rfl rfl (fun id hid=>k.hW id (.inr hid)) fun v1 h1 f1 _ ov=>?_
 have or1:=f1.ob0 k.or_
 have ow1:=f1.ob0 k.ow
 have b64:IntKind.u64.bits=64:=rfl
 have s0:0<=g.size:=by omega
 have hm:IntKind.u64.wrap (IntKind.u64.wrap (IntKind.u64.wrap (1*2^(min g.size.toNat 64))-1)*2^(min g.from_.toNat 64))=maskOf g:=rfl
 have hv:IntKind.u64.wrap (IntKind.u64.wrap y.1.num*2^(min g.from_.toNat 64))=valOf g y.1.num:=rfl
 simp only[F22.n21,pFld_ptr,lLd_f,ov,ldk_mk,zG,zA,zB,cellK_some,pBin_shl,s0,zH,pBin_subU,hs.2.1,b64,hm,F22.n20,or1,encRA,pCnv_u,hv,F22.n19,ow1,pBin_andU,pBin_neqU]
 unfold wishIn at k
 by_cases k1:andU w.value (maskOf g)=andU (valOf g y.1.num) w.mask
 ·rw[zW (by simpa using k1)]at k
  have k1':(andU w.value (maskOf g) != andU (valOf g y.1.num) w.mask)=false:=by simp[k1]
  have w1:∀x:Int,0<=x/\x<=1000000000->IntKind.i64.wrap x=x:=fun x hx=>wrap_in (by omega) (by omega)
  simp only[k1',F22.n18,aIf_b,zE,zD,zC,zH,F22.n17,pBin_add,w1 ((j:Int)+1) (by omega),pFld_ptr,lLd_f,or1,ow1,ldk_mk,zG,encRA,zA,zB,cellK_some,hrw,w1 ((j:Int)+1+kk) (by omega),pBin_orU]
  refine⟨encW ⟨true,orU w.mask (maskOf g),orU w.value (valOf g y.1.num)⟩,by simp[aFill,putCells,avC_int,avC_bool],?_⟩
  refine⟨TW TQ n0 h1,fun id hs _=>k.hW id (TW.back (TW.of_fr f1) hs),hB h1 _ _ (j+1) _ pl xp xo l (k.px.fr0 f1) (k.rt.fr0 f1) hj hg (fun _ h=>h) ?_ ?_⟩
  ·intro e h2 hb hp f2
   exact F22_f k hb hp (TW.trans (TW.of_fr f1) f2)
  ·intro l2 pl2 xp2 xo2 h2 hb px2 f2
   exact F22_t k hb px2 (TW.trans (TW.of_fr f1) f2)
 ·rw[zX k1]at k
  have k1':(andU w.value (maskOf g) != andU (valOf g y.1.num) w.mask)=true:=by simp[k1]
  simp only[k1',F22.n18,aIf_b,zD,zF,zC,zI]
  exact k.hk l pl xp xo h1 rfl (k.px.fr0 f1) (TW.of_fr f1)
end
end
section
open Go.Ab
attribute [-simp] eAlloc_d eStore_f
theorem GO.inv{bk:Bk}{r:Row}{l:List Row}(h:GO bk (r::l)):(0<=r.rows/\r.rows<=l.length)/\RowO bk r/\(r.kind=sRepeat\/r.kind=sIf->GO bk (l.take r.rows.toNat))/\GO bk (l.drop r.rows.toNat):=by
 cases h with |cons h0 h1 h2 h3=>exact⟨h0,h1,h2,h3⟩
section
variable {n0 p:Nat} {xr:AV} {bk:Bk} {ids:List Nat} {qm bm gm:Nat} {rs:List (Row×AV)}
theorem do_ok(sc:SC bk rs)(n:Nat):DoS n0 p xr bk ids qm bm gm rs n:=by
 induction n using Nat.strongRecOn with
 |ind n ih=>
 intro h M R a w pl xp xo l px rt hn hg hM he hk
 apply F22.callsN
 unfold F22.n44
 refine box_var rfl fun vw h1 f1 hvw ow=>?_
 unfold F22.n43 F22.n42
 have hlen:=rt.n
 refine vLoop_of (ι:=Nat×OL×Int×AV×AV) (fun i v h'=>v=[.ptr p 0,I (a+n),.ptr vw 0,I (a+(n-i.1:Nat):Int)]/\i.1<=n/\PX n0 h' p xr bk ids qm bm gm i.2.1 i.2.2.1 i.2.2.2.1 i.2.2.2.2/\GO bk (sg rs (a+(n-i.1)) i.1)/\h'.obj vw=some (mkO (encW w) 3 69) /\
  doP bk (rs.map (·.1)) w (sg rs (a+(n-i.1)) i.1) i.2.1=doP bk (rs.map (·.1)) w (sg rs a n) l/\Fr h h' (TW TQ n0 h)) (fun i=>i.1) (n,l,pl,xp,xo) ⟨by simp,zU _,px.fr0 f1,by simpa using hg,ow,by simp,TW.of_fr f1⟩ ?_
 rintro K ⟨m,l1,pl1,xp1,xo1⟩ v h2 ⟨rfl,hm,px2,hg2,ow2,heq,f2⟩ step
 simp only at hm px2 hg2 heq step
 have rt2:=rt.frQ f2
 have hW2:∀{h3:AH},Fr h h3 (TW TQ n0 h)->∀id,TW TQ n0 h3 id\/h3.next<=id->(M id\/h.next<=id):=fun{h3} f id hid=>hid.elim (fun hid=>(TW.back f hid).elim (fun h=>.inl (hM id h)) .inr) (fun hid=>.inr (zR f.next hid))
 unfold F22.g1_
 simp only[zN,zO,F22.n41,pBin_lss]
 cases m with
 |zero=>
  have e1:decide ((a:Int)+(n-0:Nat)<a+n)=false:=by simp
  rw[sg_0,doP_nil]at heq
  simp only[e1,F22.n40,aIf_b,zE,zD,zC,zH,zV,F22.n1]
  simpa using hk l1 pl1 xp1 xo1 h2 heq.symm px2 f2
 |succ m=>
  obtain⟨j,hj⟩:∃j,j=a+(n-(m+1)):=⟨_,rfl⟩
  have ej:(a:Int)+(n-(m+1):Nat)=(j:Int):=by omega
  have e1:decide ((j:Int)<a+n)=true:=by simp;omega
  rw[<-hj]at heq hg2
  obtain⟨y,hy⟩:∃y,rs[j]?=some y:=⟨rs[j]'(by omega),zJ _⟩
  rw[sg_s hy]at heq hg2
  rw[doP_cons]at heq
  obtain⟨⟨b0,b1⟩,go,gt,gd⟩:=hg2.inv
  rw[sg_len (by omega)]at b1
  obtain⟨kk,hkk⟩:∃kk:Nat,y.1.rows=kk:=⟨y.1.rows.toNat,by omega⟩
  have hkm:kk<=m:=by omega
  rw[hkk,zY,sg_take hkm,sg_drop]at heq
  rw[hkk,zY,sg_take hkm]at gt
  rw[hkk,zY,sg_drop]at gd
  have w1:∀x:Int,0<=x/\x<=1000000000->IntKind.i64.wrap x=x:=fun x hx=>wrap_in (by omega) (by omega)
  simp only[e1,ej,F22.n40,aIf_b,zD,zF,zC,zI,F22.n39,pNil_ptr,pFld_ptr,lLd_f,px2.p,ldk_mk,zG,zA,cellK_some]
  refine rng_var rt2.r encRA_len (rt2.one hy) hy rfl rfl (fun id hid=>hW2 f2 id (.inr hid)) fun vr h3 f3 _ or3=>?_
  have f03:=TW.trans f2 (TW.of_fr f3)
  have px3:=px2.fr0 f3
  have ow3:=f3.ob0 ow2
  have dk:DK (fun id=>M id\/h.next<=id) (retV Try.prog [.tmp 8] R) K (fun(i:Nat) (vs:List AV) (h:AH)=>if i=0 then F22.n1 (fun id=>M id\/h.next<=id) (retV Try.prog [.tmp 8] R) (retV Try.prog [.tmp 8] R) (fun _ _ _=>False) (fun v h=>R (.pan v) h) h else False) (fun v h=>R (.pan v) h) h3 n0 p vw vr xr xp1 xo1 (I (a+n)) bk ids qm bm gm l1 pl1 rs w y j (oneP bk (rs.map (·.1)) w y.1 (sg rs (j+1) kk) l1):=by
   refine⟨sc,px3,rt.frQ f03,hy,ow3,or3,hW2 f03,?_,?_⟩
   ·intro e h' ho hp f'
    rw[ho]at heq
    simpa using he e h' heq.symm hp (TW.trans f03 f')
   ·intro l' pl' xp' xo' h' ho px' f'
    rw[ho]at heq
    have f04:=TW.trans f03 f'
    simp only[F22.n2,pNil_ptr,pFld_ptr,lLd_f,px'.p,ldk_mk,zG,zA,cellK_some]
    refine rng_fld (k:=4) (rt.frQ f04).r encRA_len hy (by omega) rfl fun _=>?_
    rw[hkk]
    simp only[pBin_add,w1 (1+(kk:Int)) (by omega),w1 ((j:Int)+(1+kk)) (by omega)]
    have e8:j+1+kk=a+(n-(m-kk)):=by omega
    have e9:(j:Int)+(1+kk)=a+(n-(m-kk):Nat):=by omega
    simp only[bindP]at heq
    rw[e8]at heq gd
    exact step (m-kk,l',pl',xp',xo') _ h' (by simp only;omega) ⟨by rw[<-e9],by simp only;omega,px',gd,TW.obj f' ow3 rfl,heq,f04⟩
  clear heq step
  have e4:(⟨#[114,101,112,101,97,116]⟩:ByteArray)=sRepeat:=rfl
  have e5:(⟨#[105,102]⟩:ByteArray)=sIf:=rfl
  have e6:(⟨#[117,115,101]⟩:ByteArray)=sUse:=rfl
  have e7:(⟨#[109,101,97,115,117,114,101]⟩:ByteArray)=sMeasure:=rfl
  have e8:(⟨#[114,101,115,101,116]⟩:ByteArray)=sReset:=rfl
  unfold oneP at dk
  simp only[F22.n38,F22.n37,pFld_ptr,lLd_f,or3,ldk_mk,zG,encRA,zA,zB,cellK_some,F22.n36,pBin_seql,e4]
  by_cases k1:y.1.kind=sRepeat
  ·rw[zX k1]at dk
   simp only[zL k1,F22.n35,aIf_b,zD,zF,zC,zI]
   exact F22_rep (ih kk (by omega)) dk (by omega) hkk (gt (.inl k1))
  rw[zW k1]at dk
  simp only[zK k1,F22.n35,aIf_b,zE,zD,zC,zH,F22.n34,pBin_seql,e5]
  by_cases k2:y.1.kind=sIf
  ·rw[zX k2]at dk
   obtain⟨g,hgr,_⟩:=go.i k2
   rw[hgr]at dk
   simp only[zL k2,F22.n33,aIf_b,zD,zF,zC,zI]
   exact F22_if (ih kk (by omega)) hgr dk (by omega) hkk (gt (.inr k2))
  rw[zW k2]at dk
  simp only[zK k2,F22.n33,aIf_b,zE,zD,zC,zH,F22.n32,pBin_seql,e6]
  by_cases k3:y.1.kind=sUse
  ·rw[zX k3]at dk
   simp only[zL k3,F22.n31,aIf_b,zD,zF,zC,zI]
   exact F22_use dk (go.u k3).1 (go.u k3).2
  rw[zW k3]at dk
  simp only[zK k3,F22.n31,aIf_b,zE,zD,zC,zH,F22.n30,pBin_seql,e7]
  by_cases k4:y.1.kind=sMeasure
  ·rw[zX k4]at dk
   obtain⟨x,z,hxz,h0,h1⟩:=go.m k4
   rw[hxz]at dk
   simp only[zL k4,F22.n29,aIf_b,zD,zF,zC,zI]
   exact F22_meas hxz dk h0 h1
  rw[zW k4]at dk
  simp only[zK k4,F22.n29,aIf_b,zE,zD,zC,zH,F22.n28,pBin_seql,e8]
  by_cases k5:y.1.kind=sReset
  ·rw[zX k5]at dk
   obtain⟨x,hx,h0⟩:=go.s k5
   simp only[zL k5,F22.n27,aIf_b,zD,zF,zC,zI]
   exact F22_reset dk (fun c hc=>by rw[hx]at hc;have:=List.mem_singleton.1 hc;subst this;exact h0)
  rw[zW k5]at dk
  simp only[zK k5,F22.n27,aIf_b,zE,zD,zC,zH]
  exact F22_t dk rfl px3 (TW.of_fr Fr.refl)
end
end
section
open Go.Ab
attribute [-simp] eAlloc_d eStore_f
def OG(o:COp):Prop:=o.qubits.length<=100000000/\MOK o
def WG(w:Wsh):Prop:=(0<=w.mask/\w.mask<18446744073709551616)/\(0<=w.value/\w.value<18446744073709551616)
theorem OG_mk{k:Int}{n:ByteArray}{qs:List Int}{b:Int}{w:Wsh}(hq:qs.length<=100000000)(hw:WG w):OG (mkOp k n qs b w):=⟨hq,hw.1.1,hw.1.2,hw.2.1,hw.2.2⟩
def LG(l:OL):Prop:=∀x∈l,OG x.1
theorem putP_LG{l l':OL}{o:COp}{pl:Int}(h:putP l o pl=.ok l')(hl:LG l)(ho:OG o):LG l':=by
 unfold putP at h
 split at h
 ·cases h
 ·cases h
  intro x hx
  rcases List.mem_append.1 hx with hx |hx
  ·exact hl x hx
  ·have:=List.mem_singleton.1 hx
   subst this;exact ho
theorem repP_all{I:OL->Prop}{f:OL->Except Int OL}(hf:∀l l',f l=.ok l'->I l->I l'):∀(n:Nat)(l l':OL),repP f n l=.ok l'->I l->I l'
 |0,l,l',h,hl=>by cases h;exact hl
 |n+1,l,l',h,hl=>by
  unfold repP at h
  split at h
  ·cases h
  ·rename_i l1 h1
   split at h
   ·cases h;exact hf _ _ h1 hl
   ·exact repP_all hf n l1 l' h (hf _ _ h1 hl)
theorem bind_all{f:OL->Except Int OL}{x:Except Int OL}{l':OL}(h:bindP f x=.ok l'):∃l1,x=.ok l1/\f l1=.ok l':=by
 cases x with
 |error e=>cases h
 |ok l1=>exact⟨l1,rfl,h⟩
theorem bodyP_LG{bk:Bk}{L:List Row}(hL:∀r∈L,r.args.length<=100000000){w:Wsh}(hw:WG w){pl:Int}(k:Nat):∀(n:Nat){env:List (ByteArray×Int)}{rows:List Row}{l l':OL}(_:rows.length=n)(_:∀r∈rows,r∈L)(_:bodyP bk L k env w pl rows l=.ok l')(_:LG l),LG l':=by
 induction k using Nat.strongRecOn with
 |ind k ihk=>
 intro n
 induction n using Nat.strongRecOn with
 |ind n ih=>
 intro env rows l l' hn hr h hl
 cases rows with
 |nil=>rw[bodyP_nil]at h;cases h;exact hl
 |cons r rest=>
  rw[List.length_cons]at hn
  rw[bodyP_cons]at h
  obtain⟨l1,h1,h2⟩:=bind_all h
  refine ih _ (by rw[List.length_drop];omega) rfl (fun x hx=>hr x (List.mem_cons_of_mem _ (List.mem_of_mem_drop hx))) h2 ?_
  split at h1
  ·exact repP_all (I:=LG) (fun a b hab ha=>ih _ (by rw[yA];omega) rfl (fun x hx=>hr x (List.mem_cons_of_mem _ (List.mem_of_mem_take hx))) hab ha) _ _ _ h1 hl
  ·unfold applyP at h1
   have hrl:=hL r (hr r (List.mem_cons_self ..))
   split at h1
   ·exact putP_LG h1 hl (OG_mk (by simpa using hrl) hw)
   ·split at h1
    ·cases h1;exact hl
    ·split at h1
     ·cases h1;exact hl
     ·split at h1
      ·rename_i hi
       exact ihk _ hi _ rfl (fun x hx=>List.mem_of_mem_drop (List.mem_of_mem_take hx)) h1 hl
      ·cases h1;exact hl
theorem applyP_LG{bk:Bk}{L:List Row}(hL:∀r∈L,r.args.length<=100000000){w:Wsh}(hw:WG w){pl:Int}{k:Nat}{nm:ByteArray}{qs:List Int}{l l':OL}(hq:qs.length<=100000000)(h:applyP bk L k nm qs w pl l=.ok l')(hl:LG l):LG l':=by
 unfold applyP at h
 split at h
 ·exact putP_LG h hl (OG_mk hq hw)
 ·split at h
  ·cases h;exact hl
  ·split at h
   ·cases h;exact hl
   ·split at h
    ·exact bodyP_LG hL hw _ _ rfl (fun x hx=>List.mem_of_mem_drop (List.mem_of_mem_take hx)) h hl
    ·cases h;exact hl
theorem wrapU(x:Int):0<=IntKind.u64.wrap x/\IntKind.u64.wrap x<18446744073709551616:=by
 have e:IntKind.u64.wrap x=x%18446744073709551616:=by unfold IntKind.wrap;rfl
 rw[e];omega
theorem wishIn_WG{w w':Wsh}{g:Reg}{n:Int}(h:wishIn w g n=some w'):WG w':=by
 unfold wishIn at h
 split at h
 ·cases h
 ·cases h
  exact⟨wrapU _,wrapU _⟩
theorem doP_LG{bk:Bk}{L:List Row}(hL:∀r∈L,r.args.length<=100000000)(n:Nat):∀{w:Wsh}{rows:List Row}{l l':OL}(_:WG w)(_:rows.length=n)(_:∀r∈rows,r∈L)(_:doP bk L w rows l=.ok l')(_:LG l),LG l':=by
 induction n using Nat.strongRecOn with
 |ind n ih=>
 intro w rows l l' hw hn hr h hl
 cases rows with
 |nil=>rw[doP_nil]at h;cases h;exact hl
 |cons r rest=>
  rw[List.length_cons]at hn
  rw[doP_cons]at h
  obtain⟨l1,h1,h2⟩:=bind_all h
  have hrl:=hL r (hr r (List.mem_cons_self ..))
  refine ih _ (by rw[List.length_drop];omega) hw rfl (fun x hx=>hr x (List.mem_cons_of_mem _ (List.mem_of_mem_drop hx))) h2 ?_
  unfold oneP at h1
  split at h1
  ·exact repP_all (I:=LG) (fun a b hab ha=>ih _ (by rw[yA];omega) hw rfl (fun x hx=>hr x (List.mem_cons_of_mem _ (List.mem_of_mem_take hx))) hab ha) _ _ _ h1 hl
  split at h1
  ·split at h1
   ·cases h1;exact hl
   ·split at h1
    ·cases h1;exact hl
    ·rename_i w' hw'
     exact ih _ (by rw[yA];omega) (wishIn_WG hw') rfl (fun x hx=>hr x (List.mem_cons_of_mem _ (List.mem_of_mem_take hx))) h1 hl
  split at h1
  ·exact applyP_LG hL hw (by simpa using hrl) h1 hl
  split at h1
  ·split at h1
   ·exact putP_LG h1 hl (OG_mk (by simp) hw)
   ·cases h1;exact hl
  split at h1
  ·exact putP_LG h1 hl (OG_mk (by simpa using hrl) hw)
  cases h1;exact hl
end
section
open Go.Ab
attribute [-simp] eAlloc_d eStore_f
section
variable {h:AH} {M:Nat->Prop} {R:AE->AH->Prop} {xr:AV}
def bk0:Bk:=⟨[],[],[]⟩
theorem new_ok(hx:oneA xr=true/\avCells xr=some [xr])(hR:∀p qm bm gm h',PA h.next h' p xr bk0 [] qm bm gm 0->Fr h h' (fun _=>False)->R (.ret (.ptr p 0)) h'):ACalls Try.prog 20 [xr] h M R:=by
 apply F20.callsN
 unfold F20.n2 F20.n1
 refine mk_k (enc:=Sb) fun qm h1 o1 hq f1=>mk_k (enc:=Sb) fun bm h2 o2 hb f2=>mk_k (enc:=Sb) fun gm h3 o3 hg f3=>?_
 refine⟨[xr,.mp qm,.mp bm,.mp gm,nilS,I 0,I 0,nilS,I 0],by simp[aFill,putCells,hx.2],?_⟩
 refine box_var (by show(oneA xr&&_)=true;rw[hx.1];rfl) fun p h4 f4 hp o4=>?_
 have f04:=(f1.tr0 f2).tr0 (f3.tr0 f4)
 have n1:=f1.next
 have n2:=f2.next
 have n3:=f3.next
 have l1:=h1.lt _ _ o1
 have l2:=h2.lt _ _ o2
 have fin:=hR p qm bm gm h4 ⟨⟨by omega,hq,by omega,by omega,(fun _ h=>by cases h)⟩,o4,⟨f4.ob0 (f3.ob0 (f2.ob0 o1)),f4.ob0 (f3.ob0 o2),f4.ob0 o3,rfl,(fun k d id h=>by cases h),.nil,by omega⟩⟩ f04
 simpa using fin
end
theorem bkF0:BkF bk0:=⟨⟨⟨by decide,by decide,(fun _ h=>by cases h),(fun _ h=>by cases h),(fun _ h=>by cases h)⟩,.nil⟩,(fun _ h=>by cases h)⟩
theorem agg27:aggOf Try.prog 27=some true:=by kernel_rfl
theorem sz27:szOf Try.prog 27=some 3:=by kernel_rfl
theorem F10_ret{h:AH}{R:AE->AH->Prop}{v:Nat}{q b:Int}{xo:AV}{a e:Int}(ho:h.obj v=some (mkO [I q,I b,xo] 3 27))(hR:R (.ret (.tup [.agg [I q,I b,xo],I a,I e])) h):retV Try.prog [.cell 2 27,.tmp 3,.tmp 4] R [.ptr v 0,I a,I e] h:=by
 unfold retV aResV
 rw[agg27,sz27]
 refine var_ld ho rfl fun _=>?_
 simpa[aResV,tupOf] using hR
theorem checkGo_nn{q b:Int}:∀{l:List COp}{i:Nat}{n:Int},0<=(checkGo q b l i n).1
 |[],_,_=>by simp[checkGo]
 |o::l,i,n=>by
  unfold checkGo
  split
  ·simp
  ·split
   ·simp
   ·exact checkGo_nn
theorem checkP_nn{q b:Int}{l:List COp}:0<=(checkP q b l).1:=by
 unfold checkP
 split
 ·simp
 ·split
  ·simp
  ·exact checkGo_nn
theorem bld27:aFill (fun i=>[(0,1),(1,1),(2,1)][i]?) ([Value.int .i64 0,.int .i64 0,.slice none 0 0].map .sc) []=some [I 0,I 0,nilS]:=rfl
section
variable {h:AH} {M:Nat->Prop} {R:AE->AH->Prop} {xr:AV} {rs:List (Row×AV)}
structure FlatA (h:AH) (f:FlatR) (xo:AV) (yl:List (COp×AV)):Prop where
 o:OpsL h xo yl
 e:yl.map (·.1)=f.ops
 g:∀y∈yl,OG y.1
 n:yl.length<=4096
theorem flat_ok(rt:RT h xr rs)(hn:∀y∈rs,y.1.num<=9223372036854775807)
  (hR:∀xo yl h',FlatA h' (flatP (rs.map (·.1))) xo yl->Fr h h' (fun _=>False)->R (.ret (.tup [.agg [I (flatP (rs.map (·.1))).q,I (flatP (rs.map (·.1))).b,xo],I (flatP (rs.map (·.1))).at_,I (flatP (rs.map (·.1))).err])) h'):ACalls Try.prog 10 [xr] h M R:=by
 apply F10.callsN
 unfold F10.n20
 have hv:=AH.alloc_new h (mkO ([Value.int .i64 0,.int .i64 0,.slice none 0 0].map AV.sc) 3 27)
 rw[eAlloc_d]
 refine⟨rfl,?_⟩
 have f1:Fr h (h.alloc (mkO ([Value.int .i64 0,.int .i64 0,.slice none 0 0].map AV.sc) 3 27)) (fun _=>False):=Fr.refl.alloc _
 generalize h.alloc (mkO ([Value.int .i64 0,.int .i64 0,.slice none 0 0].map AV.sc) 3 27)=h1 at *
 obtain⟨v,hvn⟩:∃v,v=h.next:=⟨_,rfl⟩
 rw[<-hvn]at hv ⊢
 have ov:h1.obj v=some (mkO [I 0,I 0,nilS] 3 27):=hv
 have rt1:=rt.fr0 f1
 unfold F10.n19
 refine⟨fun _=>False,fun _ h=>h.elim,new_ok rt1.r.one fun p qm bm gm h2 pa f2=>?_⟩
 have f02:=f1.tr0 f2
 have rt2:=rt.fr0 f02
 have hvn1:v<h1.next:=h1.lt _ _ ov
 generalize hn0:h1.next=n0 at *
 have hvN:v<n0:=hvn1
 have nxt:h.next<=n0:=by have:=f1.next;omega
 have toF:∀{T:TypeId->Bool}{a b:AH},Fr h a (fun _=>False)->Fr a b (TW T n0 a)->Fr h b fun _=>False:=fun fa fb=>fa.trans (fb.mono fun id hid=>.inr (zR nxt hid.1))
 have ov2:h2.obj v=some (mkO [I 0,I 0,nilS] 3 27):=f2.ob0 ov
 have Wv:∀id,n0<=id->(M id\/v<=id):=fun id hid=>.inr (by omega)
 simp only[F10.n18,rt2.r.len.1,rt2.r.len.2,zH]
 have er:(rs.length:Int)=((0:Nat):Int)+(rs.length:Int):=by simp
 have hall:sg rs 0 rs.length=rs.map (·.1):=by unfold sg;simp
 have hL:∀r∈rs.map (·.1),r.args.length<=100000000:=fun r hr=>by
  obtain⟨z,hz,rfl⟩:=List.mem_map.1 hr
  exact(rt.a z hz).2
 have fin:∀{h':AH}{xo:AV}{yl:List (COp×AV)},h'.obj v=some (mkO [I (flatP (rs.map (·.1))).q,I (flatP (rs.map (·.1))).b,xo] 3 27)->FlatA h' (flatP (rs.map (·.1))) xo yl->Fr h h' (fun _=>False) ->
   retV Try.prog [.cell 2 27,.tmp 3,.tmp 4] R [.ptr v 0,I (flatP (rs.map (·.1))).at_,I (flatP (rs.map (·.1))).err] h':=fun ho ha hf=>F10_ret ho (hR _ _ _ ha hf)
 have zero:∀{h':AH}{a e:Int},flatP (rs.map (·.1))=⟨0,0,[],a,e⟩->h'.obj v=some (mkO [I 0,I 0,nilS] 3 27)->Fr h h' (fun _=>False)->retV Try.prog [.cell 2 27,.tmp 3,.tmp 4] R [.ptr v 0,I a,I e] h':=fun{h' a e} he ho hf=>by
  have:=fin (h':=h') (xo:=nilS) (yl:=[])
  rw[he]at this
  exact this ho ⟨⟨.inl ⟨rfl,rfl⟩,(fun _ h=>by cases h)⟩,rfl,(fun _ h=>by cases h),by simp⟩ hf
 have putv:∀{h':AH}{x y z:AV},h'.obj v=some (mkO [I 0,I 0,nilS] 3 27)->(h'.put v 0 [x,y,z]).obj v=some (mkO [x,y,z] 3 27):=fun ho=>by rw[put_mk ho];rfl
 have fput:∀{h':AH}{cs:List AV},Fr h h' (fun _=>False)->Fr h (h'.put v 0 cs) fun _=>False:=fun hf=>hf.put (.inr (by omega))
 rw[er]
 refine⟨TW TP n0 h2,fun id hs _=>Wv id hs.1,look_ok rs.length (a:=0) (deep:=0) (own:=none) (bk:=bk0) (ids:=[]) pa rt2 bkF0.i rfl (by omega) (by omega) (fun _ h=>h) ?_ ?_⟩
 ·intro pl e h3 hl hp f3
  rw[hall]at hl
  obtain⟨cs,hp,c8⟩:=hp
  have f03:=toF f02 f3
  have ov3:h3.obj v=some (mkO [I 0,I 0,nilS] 3 27):=TW.obj f3 ov2 rfl
  have h0:(e != 0)=true:=by simpa using lookP_err _ rfl hl
  have hvp:v≠p:=fun e=>by have:=pa.n.1;omega
  have hfl:flatP (rs.map (·.1))=⟨0,0,[],pl,e⟩:=by
   unfold flatP
   rw[show(⟨[],[],[]⟩:Bk)=bk0 from rfl,hl]
  simp only[F10.n17,pBin_neq,h0,F10.n16,aIf_b,zD,zF,zC,zI,F10.n15]
  refine⟨fun _=>p,fun _ _=>by rw[hp];simp,⟨_,bld27,?_⟩⟩
  simp only[pNil_ptr,pFld_ptr,lLd_f,hp,ldk_mk,zG,c8,cellK_some,zH,eStore_f,ov3,avC_agg,stk_mk]
  refine⟨⟨⟨.inr (by omega),fun _ _=>hvp⟩,rfl,rfl,by simp⟩,?_⟩
  simp only[F10.n14]
  exact zero hfl (putv ov3) (fput f03)
 ·intro bk idl pl h3 hl pa3 f3
  rw[hall]at hl
  have hl':=hl
  have f03:=toF f02 f3
  have ov3:h3.obj v=some (mkO [I 0,I 0,nilS] 3 27):=TW.obj f3 ov2 rfl
  have rt3:=rt.fr0 f03
  obtain⟨bf,_,_,hgood⟩:=lookP_good hL rs.length (deep:=0) (own:=none) (i:=0) (bk:=bk0) (bk':=bk) (by simp) bkF0 (fun k h=>by cases h) (by rw[<-sgR_sg,hall];exact hl)
  obtain⟨hgo,_,hdk⟩:=hgood bk Mono.refl bf
  have hgo:=hgo rfl
  rw[<-sgR_sg]at hgo
  have sc:SC bk rs:=⟨bf,fun k d hd=>hdk k (Nat.zero_le _) (zM.1 hd).1 d hd,hn⟩
  have px3:PX n0 h3 p xr bk ([]++idl) qm bm gm [] pl nilS nilS:=⟨⟨pa3.n.1,(fun _ _ _ e=>by cases e),(fun _ _ _ e=>by cases e)⟩,pa3.p,pa3.m,.nil,⟨[],.nil,rfl,(fun _ h=>by cases h)⟩,by simp⟩
  have h00:((0:Int) != 0)=false:=rfl
  simp only[F10.n17,pBin_neq,h00,F10.n16,aIf_b,zE,zD,zC,zH,F10.n13,rt3.r.len.1,rt3.r.len.2]
  refine⟨[B false,U 0,U 0],rfl,?_⟩
  rw[er]
  refine⟨TW TQ n0 h3,fun id hs _=>Wv id hs.1,do_ok sc rs.length h3 _ _ 0 ⟨false,0,0⟩ pl nilS nilS [] px3 rt3 (by simp) hgo (fun _ h=>h) ?_ ?_⟩
  ·intro e h4 hd hp f4
   rw[hall]at hd
   obtain⟨_,_,_,px4⟩:=hp
   have f04:=toF f03 f4
   have ov4:h4.obj v=some (mkO [I 0,I 0,nilS] 3 27):=TW.obj f4 ov3 rfl
   have hvp:v≠p:=fun e=>by have:=pa.n.1;omega
   have hfl:flatP (rs.map (·.1))=⟨0,0,[],e,115⟩:=by
    unfold flatP
    rw[show(⟨[],[],[]⟩:Bk)=bk0 from rfl,hl]
    simp only[hd]
   simp only[pUn_not,zT,F10.n12,aIf_b,zD,zF,zC,zI,F10.n11]
   refine⟨fun _=>p,fun _ _=>by rw[px4.p];simp,⟨_,bld27,?_⟩⟩
   simp only[pNil_ptr,pFld_ptr,lLd_f,px4.p,ldk_mk,zG,zA,zB,cellK_some,zH,eStore_f,ov4,avC_agg,stk_mk]
   refine⟨⟨⟨.inr (by omega),fun _ _=>hvp⟩,rfl,rfl,by simp⟩,?_⟩
   simp only[F10.n10]
   exact zero hfl (putv ov4) (fput f04)
  ·intro l pl' xp xo h4 hd px4 f4
   rw[hall]at hd
   have f04:=toF f03 f4
   have ov4:h4.obj v=some (mkO [I 0,I 0,nilS] 3 27):=TW.obj f4 ov3 rfl
   have lg:LG l:=doP_LG hL _ ⟨⟨by decide,by decide⟩,⟨by decide,by decide⟩⟩ rfl (fun _ h=>h) hd (fun _ h=>by cases h)
   obtain⟨yl,o1,o2,o3⟩:=px4.o
   have hops:OpsL h4 xo yl:=⟨o1.toR,fun y hy=>(o3 y hy).1⟩
   have hog:∀y∈yl,OG y.1:=fun y hy=>by
    have:y.1∈l.map (·.1):=by rw[<-o2];exact List.mem_map_of_mem hy
    obtain⟨x,hx,e⟩:=List.mem_map.1 this
    rw[<-e];exact lg x hx
   have hyl:yl.length<=4096:=by
    have:=congrArg List.length o2
    have:=px4.len
    simp only[zZ]at *;omega
   simp only[pUn_not,zS,F10.n12,aIf_b,zE,zD,zC,zH,F10.n9,pNil_ptr,pFld_ptr,lLdn_f,px4.p,ldnk_mk,zG,List.drop_succ_cons,List.drop_zero,List.take_succ_cons,List.take_zero]
   refine⟨by simp,?_⟩
   refine⟨fun _=>False,fun _ h=>h.elim,check_ok hops (fun y hy=>zR (hog y hy).1 (by decide)) fun h5 f5=>?_⟩
   rw[o2]
   have f05:=f04.tr0 f5
   have px5:=px4.fr0 f5
   have ov5:=f5.ob0 ov4
   have hops5:=hops.fr0 f5
   have hfl:flatP (rs.map (·.1))=if (checkP (totalR bk.qs) (totalR bk.bs) (l.map (·.1))).2≠0 then⟨0,0,[],(match l[(checkP (totalR bk.qs) (totalR bk.bs) (l.map (·.1))).1.toNat]? with |some x=>x.2 |none=>0),(checkP (totalR bk.qs) (totalR bk.bs) (l.map (·.1))).2⟩ else⟨totalR bk.qs,totalR bk.bs,l.map (·.1),0,0⟩:=by
    conv=>lhs;unfold flatP
    rw[show(⟨[],[],[]⟩:Bk)=bk0 from rfl,hl]
    simp only[hd]
    all_goals rfl
   have hnn:=checkP_nn (q:=totalR bk.qs) (b:=totalR bk.bs) (l:=l.map (·.1))
   generalize checkP (totalR bk.qs) (totalR bk.bs) (l.map (·.1))=c at *
   obtain⟨c1,c2⟩:=c
   simp only at hfl hnn
   simp only[res2,pExt_tup,zA,zB,cellK_some,F10.n8,pBin_neq]
   by_cases k1:c2=0
   ·rw[zW (by simpa using k1)]at hfl
    have k1':(c2 != 0)=false:=by simp[k1]
    simp only[k1',F10.n7,aIf_b,zE,zD,zC,zH,F10.n1,pNil_ptr,pFld_ptr,lLdn_f,px5.p,ldnk_mk,zG,List.drop_succ_cons,List.drop_zero,List.take_succ_cons,List.take_zero]
    refine⟨by simp,?_⟩
    simp only[eStore_f,ov5,avC_agg,stk_mk]
    have hx:=hops5.tab.one.1
    refine⟨⟨.inr (by omega),by show(true&&(true&&(oneA xo&&true)))=true;rw[hx];rfl,rfl,by simp⟩,?_⟩
    have:=fin (h':=h5.put v 0 [I (totalR bk.qs),I (totalR bk.bs),xo]) (xo:=xo) (yl:=yl)
    rw[hfl]at this
    have fv:Fr h5 (h5.put v 0 [I (totalR bk.qs),I (totalR bk.bs),xo]) (·=v):=Fr.refl.put (.inl rfl)
    refine this (putv ov5) ⟨⟨hops5.tab.fr fv fun id o ho ht e=>?_,fun y hy=>(hops5.qs y hy).fr fv fun id o ho ht e=>?_⟩,o2,hog,hyl⟩ (fput f05)
    ·subst e;rw[ov5]at ho;cases ho;exact absurd (ht rfl) (show(27:Nat)≠49 by decide)
    ·subst e;rw[ov5]at ho;cases ho;exact absurd (ht rfl) (show(27:Nat)≠3 by decide)
   ·rw[zX k1]at hfl
    have k1':(c2 != 0)=true:=by simpa using k1
    simp only[k1',F10.n7,aIf_b,zD,zF,zC,zI,F10.n6,pNil_ptr,pFld_ptr,lLd_f,px5.p,ldk_mk,zG,zA,zB,cellK_some,px5.x.toR.len.1,px5.x.toR.len.2,zH,zZ,pBin_lss]
    by_cases k2:c1<l.length
    ·obtain⟨x,hx⟩:∃x,l[c1.toNat]?=some x:=⟨l[c1.toNat]'(by omega),zJ _⟩
     rw[hx]at hfl
     simp only[zL k2,F10.n5,aIf_b,zD,zF,zC,zI,F10.n4]
     rcases px5.x with⟨_,e0⟩ |⟨ix,rfl,hox⟩
     ·have:l=[]:=by simpa using e0
      subst this
      simp at k2;omega
     ·have hvp:v≠p:=fun e=>by have:=pa.n.1;omega
      have hvx:v≠ix:=obj_ne ov5 hox (show(27:Nat)≠3 by decide)
      have hcell:((l.map (·.2)).flatMap encI)[c1.toNat]?=some (I x.2):=by
       have:=flat_get (f:=encI) (k:=1) encI_len (l.map (·.2)) c1.toNat 0 (by omega)
       rw[Nat.mul_one,Nat.add_zero,List.getElem?_map,hx]at this
       exact this
      refine⟨fun i=>if i=4 then p else ix,fun i _=>by show h5.obj (if i=4 then p else ix)≠none;split<;>simp[px5.p,hox],⟨_,bld27,?_⟩⟩
      simp only[pNil_ptr,pFld_ptr,lLd_f,px5.p,ldk_mk,zG,zA,zB,cellK_some,zV,zH,pIxA_sl,hox,Nat.mul_one,hcell,zZ]
      refine⟨⟨by omega,by omega⟩,by simp,?_⟩
      simp only[eStore_f,ov5,avC_agg,stk_mk]
      refine⟨⟨⟨.inr (by omega),fun i _=>by show v≠(if i=4 then p else ix);split;exact hvp;exact hvx⟩,rfl,rfl,by simp⟩,?_⟩
      simp only[F10.n3]
      exact zero hfl (putv ov5) (fput f05)
    ·have hx:l[c1.toNat]?=none:=List.getElem?_eq_none (by omega)
     rw[hx]at hfl
     simp only[zK k2,F10.n5,aIf_b,zE,zD,zC,zH,F10.n2]
     refine⟨_,bld27,?_⟩
     simp only[eStore_f,ov5,avC_agg,stk_mk]
     refine⟨⟨.inr (by omega),rfl,rfl,by simp⟩,?_⟩
     exact zero hfl (putv ov5) (fput f05)
end
end
end Go.Proofs.Ytjehibknlmehmaa
