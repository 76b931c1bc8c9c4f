/- Gates, operations, and both checks of a circuit. No condition. -/
import Derived.Test.YtjehibknlmehmaaGreatDoorGck
import Derived.Test.YtjehibknlmehmaaGreatDoorWak
set_option maxRecDepth 100000
namespace Go.Proofs.YtjehibknlmehmaaGreatDoor
section
open Go.Ab
attribute [-simp] aH az
theorem UI:gS Pg 9=true:=by kernel_rfl
theorem jr:uY Pg 9 Sb:=NQ UI
theorem Tj:nK Pg 138=some (.agg [I 0,I 0,B false,B false,Sb ⟨#[]⟩,.sc .nilFunc]):=by kernel_rfl
def JO(v:AV):Prop:=∃f a b,v=.fn f a b
section
variable {h:AH} {M:Nat->Prop} {R:AE->AH->Prop}
theorem tM{x0 x1:AV}{c0 c1:AV}(h0:b_ x0=some [c0]/\cF c0=true)(h1:b_ x1=some [c1]/\cF c1=true)(hR:∀v h',JO v->Fr h h' (fun _=>False)->R (.ret v) h'):aB Pg 97 [x0,x1] h M R:=by
 apply W0.aO
 unfold W0.n2
 refine⟨_,h0.1,by rw[List.all_cons,h0.2];rfl,_,h1.1,by rw[List.all_cons,h1.2];rfl,?_⟩
 exact hR _ _ ⟨_,_,_,rfl⟩ ((Fr.refl.alloc _).alloc _)
theorem mh{a b:Int}(hR:∀v h',JO v->Fr h h' (fun _=>False)->R (.ret v) h'):aB Pg 98 [I a,I b] h M R:=by
 apply WZ.aO
 unfold WZ.n2
 refine⟨_,rfl,rfl,_,rfl,rfl,?_⟩
 exact hR _ _ ⟨_,_,_,rfl⟩ ((Fr.refl.alloc _).alloc _)
theorem Ac{a b c:Int}(hR:∀v h',JO v->Fr h h' (fun _=>False)->R (.ret v) h'):aB Pg 99 [I a,I b,I c] h M R:=by
 apply WY.aO
 unfold WY.n2
 refine⟨_,rfl,rfl,_,rfl,rfl,_,rfl,rfl,?_⟩
 exact hR _ _ ⟨_,_,_,rfl⟩ (((Fr.refl.alloc _).alloc _).alloc _)
theorem l9{a b c:Int}(hR:∀v h',JO v->Fr h h' (fun _=>False)->R (.ret v) h'):aB Pg 100 [I a,I b,I c] h M R:=by
 apply Pz.aO
 unfold Pz.n2
 refine⟨_,rfl,rfl,_,rfl,rfl,_,rfl,rfl,?_⟩
 exact hR _ _ ⟨_,_,_,rfl⟩ (((Fr.refl.alloc _).alloc _).alloc _)
theorem eH{h1 h2:AH}{n:Nat}(f:Fr h h1 (fun _=>False))(hn:h.next<=n)(g:Fr h1 h2 (·=n)):Fr h h2 (fun _=>False):=
 f.trans (g.mono fun id e=>.inr (by rw[e];exact hn))
def kB:List (ByteArray×Int×Int):=[(⟨#[105]⟩,1,0),(⟨#[120]⟩,1,0),(⟨#[121]⟩,1,0),(⟨#[122]⟩,1,0),(⟨#[104]⟩,1,1),(⟨#[115]⟩,1,0),(⟨#[115,100,103]⟩,1,0),(⟨#[116]⟩,1,0),(⟨#[116,100,103]⟩,1,0),(⟨#[118]⟩,1,1),(⟨#[118,100,103]⟩,1,1),(⟨#[119]⟩,1,0),(⟨#[119,100,103]⟩,1,0),(⟨#[99,120]⟩,2,0),(⟨#[99,121]⟩,2,0),(⟨#[99,122]⟩,2,0),(⟨#[99,104]⟩,2,1),(⟨#[99,115]⟩,2,0),(⟨#[99,115,100,103]⟩,2,0),(⟨#[115,119,97,112]⟩,2,0),(⟨#[105,115,119,97,112]⟩,2,0),(⟨#[105,115,119,97,112,100,103]⟩,2,0),(⟨#[99,99,120]⟩,3,0),(⟨#[99,99,122]⟩,3,0),(⟨#[99,115,119,97,112]⟩,3,0)]
inductive oC:List (ByteArray×Int×Int)->List (ByteArray×AV)->Prop
 |nil:oC [] []
 |snoc {t:List (ByteArray×Int×Int)} {l:List (ByteArray×AV)} {n:ByteArray} {a b:Int} {r:List AV}:oC t l->r.length=4->oC (t++[(n,a,b)]) (l++[(n,.agg (I a::I b::r))])
theorem oC.get{t:List (ByteArray×Int×Int)}{l:List (ByteArray×AV)}(hk:oC t l)(n:ByteArray):match t.find? (fun x=>decide (x.1=n)) with |some x=>∃r,ee n l=some (.agg (I x.2.1::I x.2.2::r))/\r.length=4 |none=>ee n l=none:=by
 induction hk with
 |nil=>rfl
 | @snoc t l m a b r hk hr ih=>
  rw[List.find?_append,Ov]
  cases hf:t.find? (fun x=>decide (x.1=n)) with
  |some x=>
   rw[hf]at ih
   obtain⟨r',h1,h2⟩:=ih
   exact⟨r',by rw[h1];rfl,h2⟩
  |none=>
   rw[hf]at ih
   simp only at ih
   rw[ih]
   by_cases e:m=n
   ·subst e
    simp only[List.find?_cons,decide_true,Option.none_or]
    exact⟨r,by simp[ee],hr⟩
   ·simp only[List.find?_cons,zK e,List.find?_nil,Option.none_or]
    simp only[ee]
    rw[zW (fun h=>e (Eq.symm h))]
theorem oC.aaD{t:List (ByteArray×Int×Int)}{l:List (ByteArray×AV)}(hk:oC t l){n:ByteArray}(hn:t.all (fun x=>decide (x.1≠n))=true):ee n l=none:=by
 have:=hk.get n
 have hf:t.find? (fun x=>decide (x.1=n))=none:=by
  rw[List.find?_eq_none]
  intro x hx
  have:=List.all_eq_true.1 hn x hx
  simpa using this
 rw[hf]at this
 exact this
theorem cY{n:Nat}{t:List (ByteArray×Int×Int)}{l:List (ByteArray×AV)}{nm:ByteArray}{a b:Int}{r:List AV}{W:Nat->Prop}{K:AH->Prop}(hk:oC t l)(ho:h.obj n=some (lc Sb 139 l))(hn:t.all (fun x=>decide (x.1≠nm))=true)(hr:r.length=4)(hW:W n)
  (hK:∀l' h',oC (t++[(nm,a,b)]) l'->h'.obj n=some (lc Sb 139 l')->Fr h h' (·=n)->K h'):dI Pg (some (9,138)) (.mp n) (Sb nm) (.agg (I a::I b::r)) h W K:=
 ua (enc:=Sb) jr hW ho (hk.aaD hn) fun h' h1 h2=>hK _ h' (hk.snoc hr) h1 h2
theorem Fi(hR:∀n l h',h'.obj n=some (lc Sb 139 l)->oC kB l->Fr h h' (fun _=>False)->R (.ret (.mp n)) h'):aB Pg 77 [] h M R:=by
 apply Rf.aO
 unfold Rf.n2 Rf.n1
 refine Aa (enc:=Sb) fun n h1 ho1 hn f1=>?_
 have kr:=oC.nil
 refine tP ⟨rfl,rfl⟩ fun z2 h2 f' _ _=>?_
 have ho2:=f'.bI ho1
 have f2:=f1.bQ f'
 refine⟨fun _=>False,fun _ h=>h.elim,tM ⟨rfl,rfl⟩ ⟨rfl,rfl⟩ fun v3 h3 hv f'=>?_⟩
 obtain⟨_,_,_,rfl⟩:=hv
 have Vj:=f'.bI ho2
 have f3:=f2.bQ f'
 refine⟨_,rfl,?_⟩
 refine cY kr Vj (by decide +kernel) rfl (.inr hn) fun l h4 kr ho4 f'=>?_
 have f4:=eH f3 hn f'
 refine tP ⟨rfl,rfl⟩ fun z5 h5 f' _ _=>?_
 have Vi:=f'.bI ho4
 have f5:=f4.bQ f'
 refine⟨fun _=>False,fun _ h=>h.elim,tM ⟨rfl,rfl⟩ ⟨rfl,rfl⟩ fun v6 h6 hv f'=>?_⟩
 obtain⟨_,_,_,rfl⟩:=hv
 have ho6:=f'.bI Vi
 have f6:=f5.bQ f'
 refine⟨_,rfl,?_⟩
 refine cY kr ho6 (by decide +kernel) rfl (.inr hn) fun l h7 kr ho7 f'=>?_
 have f7:=eH f6 hn f'
 refine tP ⟨rfl,rfl⟩ fun z8 h8 f' _ _=>?_
 have ho8:=f'.bI ho7
 have f8:=f7.bQ f'
 refine⟨fun _=>False,fun _ h=>h.elim,tM ⟨rfl,rfl⟩ ⟨rfl,rfl⟩ fun v9 h9 hv f'=>?_⟩
 obtain⟨_,_,_,rfl⟩:=hv
 have ho9:=f'.bI ho8
 have f9:=f8.bQ f'
 refine⟨_,rfl,?_⟩
 refine cY kr ho9 (by decide +kernel) rfl (.inr hn) fun l lq kr abE f'=>?_
 have f10:=eH f9 hn f'
 refine⟨fun _=>False,fun _ h=>h.elim,mh fun v11 qz hv f'=>?_⟩
 obtain⟨_,_,_,rfl⟩:=hv
 have abD:=f'.bI abE
 have f11:=f10.bQ f'
 refine⟨_,rfl,?_⟩
 refine cY kr abD (by decide +kernel) rfl (.inr hn) fun l qy kr abC f'=>?_
 have f12:=eH f11 hn f'
 refine⟨fun _=>False,fun _ h=>h.elim,Ac fun v13 QV hv f'=>?_⟩
 obtain⟨_,_,_,rfl⟩:=hv
 have abB:=f'.bI abC
 have f13:=f12.bQ f'
 refine⟨_,rfl,?_⟩
 refine cY kr abB (by decide +kernel) rfl (.inr hn) fun l vP kr abA f'=>?_
 have f14:=eH f13 hn f'
 refine⟨fun _=>False,fun _ h=>h.elim,mh fun v15 yT hv f'=>?_⟩
 obtain⟨_,_,_,rfl⟩:=hv
 have Ob:=f'.bI abA
 have f15:=f14.bQ f'
 refine⟨_,rfl,?_⟩
 refine cY kr Ob (by decide +kernel) rfl (.inr hn) fun l mz kr abz f'=>?_
 have f16:=eH f15 hn f'
 refine⟨fun _=>False,fun _ h=>h.elim,mh fun v17 vO hv f'=>?_⟩
 obtain⟨_,_,_,rfl⟩:=hv
 have aby:=f'.bI abz
 have f17:=f16.bQ f'
 refine⟨_,rfl,?_⟩
 refine cY kr aby (by decide +kernel) rfl (.inr hn) fun l vN kr abx f'=>?_
 have f18:=eH f17 hn f'
 refine⟨fun _=>False,fun _ h=>h.elim,mh fun v19 vK hv f'=>?_⟩
 obtain⟨_,_,_,rfl⟩:=hv
 have abw:=f'.bI abx
 have f19:=f18.bQ f'
 refine⟨_,rfl,?_⟩
 refine cY kr abw (by decide +kernel) rfl (.inr hn) fun l vJ kr abv f'=>?_
 have f20:=eH f19 hn f'
 refine⟨fun _=>False,fun _ h=>h.elim,mh fun v21 vI hv f'=>?_⟩
 obtain⟨_,_,_,rfl⟩:=hv
 have abu:=f'.bI abv
 have f21:=f20.bQ f'
 refine⟨_,rfl,?_⟩
 refine cY kr abu (by decide +kernel) rfl (.inr hn) fun l yS kr abt f'=>?_
 have f22:=eH f21 hn f'
 refine⟨fun _=>False,fun _ h=>h.elim,Ac fun v23 DB hv f'=>?_⟩
 obtain⟨_,_,_,rfl⟩:=hv
 have abr:=f'.bI abt
 have f23:=f22.bQ f'
 refine⟨_,rfl,?_⟩
 refine cY kr abr (by decide +kernel) rfl (.inr hn) fun l vH kr abq f'=>?_
 have f24:=eH f23 hn f'
 refine⟨fun _=>False,fun _ h=>h.elim,Ac fun v25 vG hv f'=>?_⟩
 obtain⟨_,_,_,rfl⟩:=hv
 have abp:=f'.bI abq
 have f25:=f24.bQ f'
 refine⟨_,rfl,?_⟩
 refine cY kr abp (by decide +kernel) rfl (.inr hn) fun l nH kr abo f'=>?_
 have f26:=eH f25 hn f'
 refine tP ⟨rfl,rfl⟩ fun z27 yR f' _ _=>?_
 have abn:=f'.bI abo
 have f27:=f26.bQ f'
 refine⟨fun _=>False,fun _ h=>h.elim,tM ⟨rfl,rfl⟩ ⟨rfl,rfl⟩ fun v28 sF hv f'=>?_⟩
 obtain⟨_,_,_,rfl⟩:=hv
 have abm:=f'.bI abn
 have f28:=f27.bQ f'
 refine⟨_,rfl,?_⟩
 refine cY kr abm (by decide +kernel) rfl (.inr hn) fun l QU kr abl f'=>?_
 have f29:=eH f28 hn f'
 refine tP ⟨rfl,rfl⟩ fun z30 QT f' _ _=>?_
 have abk:=f'.bI abl
 have f30:=f29.bQ f'
 refine⟨fun _=>False,fun _ h=>h.elim,tM ⟨rfl,rfl⟩ ⟨rfl,rfl⟩ fun v31 H3 hv f'=>?_⟩
 obtain⟨_,_,_,rfl⟩:=hv
 have abj:=f'.bI abk
 have f31:=f30.bQ f'
 refine⟨_,rfl,?_⟩
 refine cY kr abj (by decide +kernel) rfl (.inr hn) fun l tL kr abi f'=>?_
 have f32:=eH f31 hn f'
 refine⟨fun _=>False,fun _ h=>h.elim,l9 fun v33 H2 hv f'=>?_⟩
 obtain⟨_,_,_,rfl⟩:=hv
 have abh:=f'.bI abi
 have f33:=f32.bQ f'
 refine⟨_,rfl,?_⟩
 refine cY kr abh (by decide +kernel) rfl (.inr hn) fun l yQ kr abg f'=>?_
 have f34:=eH f33 hn f'
 refine⟨_,rfl,?_⟩
 refine cY kr abg (by decide +kernel) rfl (.inr hn) fun l tK kr abf f'=>?_
 have f35:=eH f34 hn f'
 refine⟨fun _=>False,fun _ h=>h.elim,mh fun v36 yP hv f'=>?_⟩
 obtain⟨_,_,_,rfl⟩:=hv
 have abe:=f'.bI abf
 have f36:=f35.bQ f'
 refine⟨_,rfl,?_⟩
 refine cY kr abe (by decide +kernel) rfl (.inr hn) fun l vF kr abd f'=>?_
 have f37:=eH f36 hn f'
 refine⟨_,rfl,?_⟩
 refine cY kr abd (by decide +kernel) rfl (.inr hn) fun l QQ kr abc f'=>?_
 have f38:=eH f37 hn f'
 refine⟨fun _=>False,fun _ h=>h.elim,mh fun v39 yO hv f'=>?_⟩
 obtain⟨_,_,_,rfl⟩:=hv
 have abb:=f'.bI abc
 have f39:=f38.bQ f'
 refine⟨_,rfl,?_⟩
 refine cY kr abb (by decide +kernel) rfl (.inr hn) fun l QO kr aba f'=>?_
 have f40:=eH f39 hn f'
 refine⟨fun _=>False,fun _ h=>h.elim,mh fun v41 DA hv f'=>?_⟩
 obtain⟨_,_,_,rfl⟩:=hv
 have aa_:=f'.bI aba
 have f41:=f40.bQ f'
 refine⟨_,rfl,?_⟩
 refine cY kr aa_ (by decide +kernel) rfl (.inr hn) fun l QM kr aa9 f'=>?_
 have f42:=eH f41 hn f'
 refine⟨fun _=>False,fun _ h=>h.elim,l9 fun v43 QL hv f'=>?_⟩
 obtain⟨_,_,_,rfl⟩:=hv
 have aa8:=f'.bI aa9
 have f43:=f42.bQ f'
 refine⟨_,rfl,?_⟩
 refine cY kr aa8 (by decide +kernel) rfl (.inr hn) fun l yN kr aa7 f'=>?_
 have f44:=eH f43 hn f'
 refine⟨fun _=>False,fun _ h=>h.elim,l9 fun v45 Dz hv f'=>?_⟩
 obtain⟨_,_,_,rfl⟩:=hv
 have aa6:=f'.bI aa7
 have f45:=f44.bQ f'
 refine⟨_,rfl,?_⟩
 refine cY kr aa6 (by decide +kernel) rfl (.inr hn) fun l H0 kr aa5 f'=>?_
 have f46:=eH f45 hn f'
 refine⟨fun _=>False,fun _ h=>h.elim,l9 fun v47 vD hv f'=>?_⟩
 obtain⟨_,_,_,rfl⟩:=hv
 have aa4:=f'.bI aa5
 have f47:=f46.bQ f'
 refine⟨_,rfl,?_⟩
 refine cY kr aa4 (by decide +kernel) rfl (.inr hn) fun l vC kr aa3 f'=>?_
 have f48:=eH f47 hn f'
 refine⟨fun _=>False,fun _ h=>h.elim,l9 fun v49 HZ hv f'=>?_⟩
 obtain⟨_,_,_,rfl⟩:=hv
 have aa2:=f'.bI aa3
 have f49:=f48.bQ f'
 refine⟨_,rfl,?_⟩
 refine cY kr aa2 (by decide +kernel) rfl (.inr hn) fun l vA kr aa1 f'=>?_
 have f50:=eH f49 hn f'
 refine⟨fun _=>False,fun _ h=>h.elim,mh fun v51 HY hv f'=>?_⟩
 obtain⟨_,_,_,rfl⟩:=hv
 have aa0:=f'.bI aa1
 have f51:=f50.bQ f'
 refine⟨_,rfl,?_⟩
 refine cY kr aa0 (by decide +kernel) rfl (.inr hn) fun l yM kr aaZ f'=>?_
 have f52:=eH f51 hn f'
 refine⟨fun _=>False,fun _ h=>h.elim,l9 fun v53 vz hv f'=>?_⟩
 obtain⟨_,_,_,rfl⟩:=hv
 have aaY:=f'.bI aaZ
 have f53:=f52.bQ f'
 refine⟨_,rfl,?_⟩
 refine cY kr aaY (by decide +kernel) rfl (.inr hn) fun l Dy kr aaX f'=>?_
 have f54:=eH f53 hn f'
 exact hR _ _ _ aaX kr f54
end
def dE(n:ByteArray):Int:=match kB.find? (fun x=>decide (x.1=n)) with |some x=>x.2.1 |none=>0
def pk(n:ByteArray):Int:=match kB.find? (fun x=>decide (x.1=n)) with |some x=>x.2.2 |none=>0
section
variable {h:AH} {M:Nat->Prop} {R:AE->AH->Prop}
theorem Ar{n:ByteArray}(hR:∀h',Fr h h' (fun _=>False)->R (.ret (I (dE n))) h'):aB Pg 44 [Sb n] h M R:=by
 apply Ri.aO
 unfold Ri.n2 Ri.n1
 refine⟨fun _=>False,fun _ h=>h.elim,Fi fun m l h1 ho kr f1=>?_⟩
 refine gY (enc:=Sb) jr Tj ho fun _=>?_
 have hg:=kr.get n
 unfold dE at hR
 cases hf:kB.find? (fun x=>decide (x.1=n)) with
 |none=>
  rw[hf]at hg hR
  simp only at hg
  rw[hg]
  simp[fL,lL]
  exact hR h1 f1
 |some x=>
  rw[hf]at hg hR
  obtain⟨r,hg,hr⟩:=hg
  rw[hg]
  simp[fL,lL]
  exact hR h1 f1
theorem LL{n:ByteArray}(hR:∀h',Fr h h' (fun _=>False)->R (.ret (I (pk n))) h'):aB Pg 46 [Sb n] h M R:=by
 apply Rg.aO
 unfold Rg.n2 Rg.n1
 refine⟨fun _=>False,fun _ h=>h.elim,Fi fun m l h1 ho kr f1=>?_⟩
 refine gY (enc:=Sb) jr Tj ho fun _=>?_
 have hg:=kr.get n
 unfold pk at hR
 cases hf:kB.find? (fun x=>decide (x.1=n)) with
 |none=>
  rw[hf]at hg hR
  simp only at hg
  rw[hg]
  simp[fL,lL]
  exact hR h1 f1
 |some x=>
  rw[hf]at hg hR
  obtain⟨r,hg,hr⟩:=hg
  rw[hg]
  simp[fL,lL]
  exact hR h1 f1
end
end
section
open Go.Ab
attribute [-simp] aH az
section
variable {h:AH} {M:Nat->Prop} {R:AE->AH->Prop}
def jc{α:Type}[DecidableEq α](x:α):List α->Nat->Option Nat
 |[],_=>none
 |a::l,i=>if x=a then some i else jc x l (i+1)
end
end
section
open Go.Ab
attribute [-simp] aH az
def dx(n:Int):List AV:=[I n]
def nr(s:ByteArray):List AV:=[Sb s]
theorem iR(n:Int):(dx n).length=1:=rfl
theorem F_(n:ByteArray):(nr n).length=1:=rfl
def gB{α:Type}[DecidableEq α](x:α)(l:List α):Bool:=(jc x l 0).isSome
theorem Dd{α:Type}[DecidableEq α]{x:α}:∀{l:List α}{i j:Nat},jc x l i=some j->i<=j/\x∈l
 |a::l,i,j,h=>by
  simp only[jc]at h
  split at h
  ·rename_i e;cases h;exact⟨zU _,by rw[e];simp⟩
  ·have:=Dd h;exact⟨by omega,by simp[this.2]⟩
theorem De{α:Type}[DecidableEq α]{x:α}:∀{l:List α}{i:Nat},jc x l i=none->x∉l
 |[],_,_=>by simp
 |a::l,i,h=>by
  simp only[jc]at h
  split at h
  ·cases h
  ·rename_i e
   have:=De h
   simp only[List.mem_cons,not_or]
   exact⟨e,this⟩
section
variable {h:AH} {M:Nat->Prop} {R:AE->AH->Prop}
theorem Li{x:AV}{l:List Int}{q:Int}(hx:cb dx 1 3 h x l)(hl:l.length<=9223372036854775807)(hR:R (.ret (I (match jc q l 0 with |some j=>j |none=>-1))) h):aB Pg 78 [x,I q] h M R:=by
 apply qd.aO
 simp only[qd.bc,qd.aZ,hx.len.1,hx.len.2,zH]
 unfold qd.n9
 refine cJ (ι:=Nat) (fun i v h'=>v=[x,I q,I l.length,I i]/\i<=l.length/\h'=h/\jc q (l.drop i) i=jc q l 0) (fun i=>l.length-i) 0 ⟨rfl,by omega,rfl,rfl⟩ ?_
 rintro K i v h' ⟨rfl,hi,rfl,he⟩ hK
 simp only[qd.cT,zN,zO]
 by_cases aJ:i<l.length
 ·have dZ:(i:Int)<l.length:=by omega
  have g1:l[i]?=some l[i]:=zJ aJ
  have w1:IntKind.i64.wrap ((i:Int)+1)=((i+1:Nat):Int):=by rw[aX (by omega) (by omega)];simp
  rw[List.drop_eq_getElem_cons aJ]at he
  simp only[jc]at he
  generalize l[i]=y at *
  simp only[qd.n8,bu,zL dZ,qd.n7,ap,zD,zF,zC,zI,qd.n6,qd.n5]
  refine ma hx iR g1 rfl fun _=>?_
  rw[eO]
  by_cases e:q=y
  ·rw[zX e]at he
   rw[<-he]at hR
   simp only[beq_iff_eq.2 e,qd.n4,ap,zD,zF,zC,zI,qd.n3]
   simpa using hR
  ·rw[zW e]at he
   simp only[beq_eq_false_iff_ne.2 e,qd.n4,ap,zD,zE,zC,zH,qd.n2,bg,w1]
   exact hK (i+1) _ _ (by omega) ⟨rfl,by omega,rfl,he⟩
 ·have eG:¬(i:Int)<l.length:=by omega
  rw[List.drop_of_length_le (by omega)]at he
  rw[<-he]at hR
  simp only[qd.n8,bu,zK eG,qd.n7,ap,zD,zE,zC,zH,zV,qd.n1]
  simpa[jc] using hR
theorem Gm{x:AV}{l:List Int}{q:Int}(hx:cb dx 1 3 h x l)(hl:l.length<=9223372036854775807)(hR:R (.ret (B (gB q l))) h):aB Pg 45 [x,I q] h M R:=by
 apply Rh.aO
 unfold Rh.n2 Rh.n1
 refine⟨fun _=>False,fun _ h=>h.elim,Li hx hl ?_⟩
 unfold gB at hR
 simp only[pb]
 cases hj:jc q l 0 with
 |some j=>
  rw[hj]at hR
  have h1:(0:Int)<=j:=by omega
  simp only[ge_iff_le,zL h1]
  simpa using hR
 |none=>
  rw[hj]at hR
  simpa using hR
theorem Lh{x:AV}{l:List ByteArray}{q:ByteArray}(hx:cb nr 1 9 h x l)(hl:l.length<=9223372036854775807)(hR:R (.ret (I (match jc q l 0 with |some j=>j |none=>-1))) h):aB Pg 131 [x,Sb q] h M R:=by
 apply l0.aO
 simp only[l0.bc,l0.aZ,hx.len.1,hx.len.2,zH]
 unfold l0.n9
 refine cJ (ι:=Nat) (fun i v h'=>v=[x,Sb q,I l.length,I i]/\i<=l.length/\h'=h/\jc q (l.drop i) i=jc q l 0) (fun i=>l.length-i) 0 ⟨rfl,by omega,rfl,rfl⟩ ?_
 rintro K i v h' ⟨rfl,hi,rfl,he⟩ hK
 simp only[l0.cT,zN,zO]
 by_cases aJ:i<l.length
 ·have dZ:(i:Int)<l.length:=by omega
  have g1:l[i]?=some l[i]:=zJ aJ
  have w1:IntKind.i64.wrap ((i:Int)+1)=((i+1:Nat):Int):=by rw[aX (by omega) (by omega)];simp
  rw[List.drop_eq_getElem_cons aJ]at he
  simp only[jc]at he
  generalize l[i]=y at *
  simp only[l0.n8,bu,zL dZ,l0.n7,ap,zD,zF,zC,zI,l0.n6,l0.n5]
  refine ma hx F_ g1 rfl fun _=>?_
  rw[cD]
  by_cases e:q=y
  ·rw[zX e]at he
   rw[<-he]at hR
   simp only[zL e,l0.n4,ap,zD,zF,zC,zI,l0.n3]
   simpa using hR
  ·rw[zW e]at he
   simp only[zK e,l0.n4,ap,zD,zE,zC,zH,l0.n2,bg,w1]
   exact hK (i+1) _ _ (by omega) ⟨rfl,by omega,rfl,he⟩
 ·have eG:¬(i:Int)<l.length:=by omega
  rw[List.drop_of_length_le (by omega)]at he
  rw[<-he]at hR
  simp only[l0.n8,bu,zK eG,l0.n7,ap,zD,zE,zC,zH,zV,l0.n1]
  simpa[jc] using hR
theorem Gl{x:AV}{l:List ByteArray}{q:ByteArray}(hx:cb nr 1 9 h x l)(hl:l.length<=9223372036854775807)(hR:R (.ret (B (gB q l))) h):aB Pg 114 [x,Sb q] h M R:=by
 apply JU.aO
 unfold JU.n2 JU.n1
 refine⟨fun _=>False,fun _ h=>h.elim,Lh hx hl ?_⟩
 unfold gB at hR
 simp only[pb]
 cases hj:jc q l 0 with
 |some j=>
  rw[hj]at hR
  have h1:(0:Int)<=j:=by omega
  simp only[ge_iff_le,zL h1]
  simpa using hR
 |none=>
  rw[hj]at hR
  simpa using hR
end
end
section
open Go.Ab
attribute [-simp] aH az
structure bq where
 kind:Int
 name:ByteArray
 aD:List Int
 bit:Int
 cond:Bool
 cR:Int
 value:Int
def cK(y:bq×AV):List AV:=[I y.1.kind,Sb y.1.name,y.2,I y.1.bit,B y.1.cond,U y.1.cR,U y.1.value]
theorem fg(y:bq×AV):(cK y).length=7:=rfl
theorem lS{y:bq×AV}(h:cF y.2=true):(cK y).all cF=true:=by
 show(true&&(true&&(cF y.2&&(true&&(true&&(true&&(true&&true)))))))=true
 rw[h];rfl
def te(a b:Int):Int:=IntKind.u64.wrap (BitVec.ofInt IntKind.u64.bits a &&& ~~~ BitVec.ofInt IntKind.u64.bits b).toNat
def Q4(b:Int):Int:=IntKind.u64.wrap (IntKind.u64.wrap (1*2^(min b.toNat IntKind.u64.bits))-1)
def sL(b:Int):Int:=if b=64 then 18446744073709551615 else Q4 b
def pK(b:Int)(o:bq):Bool:=!(o.kind==1||o.kind==2||o.kind==3)||(o.cond&&o.cR==0)||(!o.cond&&(o.cR != 0||o.value != 0))||(te o.cR (sL b) != 0)||(te o.value o.cR != 0)
def kE(o:bq):Bool:=(o.kind != 1&&!decide (o.name=ByteArray.empty))||(o.kind != 2&&o.bit != 0)
def tz(o:bq):Int:=if o.kind=1 then dE o.name else 1
def qj(q:Int)(l:List Int):Bool:=l.any fun z=>decide (z<0)||decide (q<=z)
def pr(l:List Int):Bool:=(List.range l.length).any fun i=>gB (l.getD i 0) (l.take i)
def iX(q b:Int)(o:bq):Int:=
 if pK b o then 120 else if kE o then 120 else if o.kind=1/\dE o.name=0 then 80 else if (o.aD.length:Int)≠tz o then 111
 else if qj q o.aD then 112 else if o.kind=2/\(o.bit<0\/b<=o.bit) then 112 else if pr o.aD then 113 else 0
theorem Wl{l:List Int}{i:Nat}(hi:i<l.length)(h:gB l[i] (l.take i)=true):pr l=true:=by
 unfold pr
 rw[List.any_eq_true]
 exact⟨i,List.mem_range.2 hi,by rw[List.getD_eq_getElem?_getD,zJ hi];exact h⟩
theorem Wk{l:List Int}(h:∀i (hi:i<l.length),gB l[i] (l.take i)=false):pr l=false:=by
 unfold pr
 rw[List.any_eq_false]
 intro i hi
 have:=List.mem_range.1 hi
 rw[List.getD_eq_getElem?_getD,zJ this]
 simp only[Option.getD_some,h i this]
 decide
theorem Uf{q:Int}{l:List Int}{i:Nat}(hi:i<l.length)(h:l[i]<0\/q<=l[i]):qj q l=true:=by
 unfold qj
 rw[List.any_eq_true]
 exact⟨l[i],List.getElem_mem hi,by simpa using h⟩
theorem Ue{q:Int}{l:List Int}(h:∀i (hi:i<l.length),¬(l[i]<0\/q<=l[i])):qj q l=false:=by
 unfold qj
 rw[List.any_eq_false]
 intro z hz
 obtain⟨i,hi,rfl⟩:=List.mem_iff_getElem.1 hz
 simpa using h i hi
theorem O3{α:Type}{f:α->List AV}{sz:Nat}{ty:TypeId}{h:AH}{x:AV}{l:List α}{K:AV->Prop}(hx:cb f sz ty h x l){i:Nat}(hi:i<l.length)
  (hK:∀y,cb f sz ty h y (l.take i)->K y):sU (some sz) x none (some (I i)) h K:=by
 rcases hx with⟨_,rfl⟩ |⟨_,_,_,rfl⟩ |⟨id,rest,ro,mv,rfl,h1,h2⟩
 ·simp at hi
 ·simp at hi
 ·refine Mo (by omega) (hK _ (.inr (.inr ⟨id,(l.drop i).flatMap f++rest,ro,mv,by rw[yA,Nat.min_eq_left (by omega)],h1,?_⟩)))
  rw[h2,<-List.append_assoc,<-List.flatMap_append,List.take_append_drop]
section
variable {W:Nat->Prop} {QR QN:VK} {QE:Nat->VK} {QP:AV->AH->Prop} {h:AH} {vc vo:Nat} {q b:Int} {nL xa:AV} {o:bq}
theorem Te(ho:h.obj vo=some (aI (cK (o,xa)) 7 38))(hq:cb dx 1 3 h xa o.aD)(hl:o.aD.length<=9223372036854775807)
  (hR:QR [I (if pr o.aD then 113 else 0)] h):cH.aZ W QR QN QE QP (.ptr vo 0) h:=by
 unfold cH.aZ
 simp only[aj,aF,ho,aA,zG,cK,zB,zA,ab,hq.len.1,hq.len.2,zH]
 unfold cH.n9
 refine cJ (ι:=Nat) (fun i v h'=>v=[.ptr vo 0,xa,I o.aD.length,I i]/\i<=o.aD.length/\h'=h/\∀j (hj:j<o.aD.length),j<i->gB o.aD[j] (o.aD.take j)=false) (fun i=>o.aD.length-i) 0 ⟨rfl,by omega,rfl,fun j _ h=>by omega⟩ ?_
 rintro K i v h' ⟨rfl,hi,rfl,hb⟩ hK
 simp only[cH.cT,zN,zO]
 by_cases aJ:i<o.aD.length
 ·have dZ:(i:Int)<o.aD.length:=by omega
  have g1:o.aD[i]?=some o.aD[i]:=zJ aJ
  have w1:IntKind.i64.wrap ((i:Int)+1)=((i+1:Nat):Int):=by rw[aX (by omega) (by omega)];simp
  have key:=fun hh=>Wl (l:=o.aD) aJ hh
  have nG:gB o.aD[i] (o.aD.take i)=false->∀j (hj:j<o.aD.length),j<i+1->gB o.aD[j] (o.aD.take j)=false:=fun h0 j hj pY=>by
   rcases Nat.lt_succ_iff_lt_or_eq.1 pY with h1 |h1
   ·exact hb j hj h1
   ·subst h1;exact h0
  generalize o.aD[i]=y at *
  simp only[cH.n8,bu,zL dZ,cH.n7,ap,zD,zF,zC,zI,cH.n6]
  refine ma hq iR g1 rfl fun _=>?_
  simp only[cH.n5,aj,aF,ho,aA,zG,cK,zB,zA,ab]
  refine O3 hq aJ fun z hz=>?_
  refine⟨fun _=>False,fun _ h=>h.elim,Gm hz (by rw[yA];omega) ?_⟩
  cases hm:gB y (o.aD.take i) with
  |true=>
   rw[key hm]at hR
   simpa using hR
  |false=>
   simp only[cH.n4,ap,zE,zC,zD,zH,cH.n2,bg,w1]
   exact hK (i+1) _ _ (by omega) ⟨rfl,by omega,rfl,nG hm⟩
 ·have eG:¬(i:Int)<o.aD.length:=by omega
  rw[Wk fun j hj=>hb j hj (by omega)]at hR
  simpa[eG] using hR
theorem Tf(hc:h.obj vc=some (aI [I q,I b,nL] 3 24))(ho:h.obj vo=some (aI (cK (o,xa)) 7 38))(hq:cb dx 1 3 h xa o.aD)(hl:o.aD.length<=9223372036854775807)
  (hR:QR [I (if o.kind=2/\(o.bit<0\/b<=o.bit) then 112 else if pr o.aD then 113 else 0)] h):cH.bN W QR QN QE QP (.ptr vc 0) (.ptr vo 0) h:=by
 have fin:∀c:Bool,c=decide (o.kind=2/\(o.bit<0\/b<=o.bit))->cH.ba W QR QN QE QP (.ptr vo 0) (B c) h:=fun c wU=>by
  cases c with
  |true=>
   rw[zX (of_decide_eq_true wU.symm)]at hR
   simpa[cH.ba] using hR
  |false=>
   rw[zW (of_decide_eq_false wU.symm)]at hR
   simp only[cH.ba,ap,zE,zC,zD,zH]
   exact Te ho hq hl hR
 have f1:=fin _ rfl
 by_cases k1:o.kind=2
 ·by_cases k2:o.bit<0
  ·simp[-cH.ba,k1,k2]at f1
   simp[-cH.ba,ho,hc,cK,k1,k2]
   exact f1
  ·by_cases k3:b<=o.bit
   ·simp[-cH.ba,k1,k2,k3]at f1
    simp[-cH.ba,ho,hc,cK,k1,k2,k3]
    exact f1
   ·simp[-cH.ba,k1,k2,k3]at f1
    simp[-cH.ba,ho,hc,cK,k1,k2,k3]
    exact f1
 ·simp[-cH.ba,k1]at f1
  have iw:(o.kind==2)=false:=by simpa using k1
  simp[-cH.ba,ho,hc,cK,iw]
  exact f1
theorem Td(hc:h.obj vc=some (aI [I q,I b,nL] 3 24))(ho:h.obj vo=some (aI (cK (o,xa)) 7 38))(hq:cb dx 1 3 h xa o.aD)(hl:o.aD.length<=9223372036854775807)
  (hR:QR [I (if qj q o.aD then 112 else if o.kind=2/\(o.bit<0\/b<=o.bit) then 112 else if pr o.aD then 113 else 0)] h):cH.cX W QR QN QE QP (.ptr vc 0) (.ptr vo 0) h:=by
 unfold cH.cX
 simp only[aj,aF,ho,aA,zG,cK,zB,zA,ab,hq.len.1,hq.len.2,zH]
 unfold cH.cV
 refine cJ (ι:=Nat) (fun i v h'=>v=[.ptr vc 0,.ptr vo 0,xa,I o.aD.length,I i]/\i<=o.aD.length/\h'=h/\∀j (hj:j<o.aD.length),j<i->¬(o.aD[j]<0\/q<=o.aD[j])) (fun i=>o.aD.length-i) 0 ⟨rfl,by omega,rfl,fun j _ h=>by omega⟩ ?_
 rintro K i v h' ⟨rfl,hi,rfl,hb⟩ hK
 simp only[cH.ju,zN,zO]
 by_cases aJ:i<o.aD.length
 ·have dZ:(i:Int)<o.aD.length:=by omega
  have g1:o.aD[i]?=some o.aD[i]:=zJ aJ
  have w1:IntKind.i64.wrap ((i:Int)+1)=((i+1:Nat):Int):=by rw[aX (by omega) (by omega)];simp
  have key:=fun hh=>Uf (q:=q) (l:=o.aD) aJ hh
  have nG:¬(o.aD[i]<0\/q<=o.aD[i])->∀j (hj:j<o.aD.length),j<i+1->¬(o.aD[j]<0\/q<=o.aD[j]):=fun h0 j hj pY=>by
   rcases Nat.lt_succ_iff_lt_or_eq.1 pY with h1 |h1
   ·exact hb j hj h1
   ·subst h1;exact h0
  generalize o.aD[i]=y at *
  simp only[cH.cE,bu,zL dZ,cH.cG,ap,zD,zF,zC,zI]
  unfold cH.cN
  refine ma hq iR g1 rfl fun _=>?_
  by_cases k1:y<0
  ·rw[key (.inl k1)]at hR
   simp[cH.cL,cH.cq,cH.cl,cH.bX,k1]
   simpa using hR
  ·by_cases k2:q<=y
   ·rw[key (.inr k2)]at hR
    simp[cH.cL,cH.cq,cH.cl,cH.bX,k1,hc,k2]
    simpa using hR
   ·simp[cH.cL,cH.cq,cH.cl,cH.bX,k1,hc,k2,w1]
    exact hK (i+1) _ _ (by omega) ⟨rfl,by omega,rfl,nG (by omega)⟩
 ·have eG:¬(i:Int)<o.aD.length:=by omega
  rw[Ue fun j hj=>hb j hj (by omega)]at hR
  simp[-cH.bN,eG]
  exact Tf hc ho hq hl (by simpa using hR)
def D6(q b:Int)(o:bq):Int:=if qj q o.aD then 112 else if o.kind=2/\(o.bit<0\/b<=o.bit) then 112 else if pr o.aD then 113 else 0
theorem Iy(hc:h.obj vc=some (aI [I q,I b,nL] 3 24))(ho:h.obj vo=some (aI (cK (o,xa)) 7 38))(hq:cb dx 1 3 h xa o.aD)(hl:o.aD.length<=9223372036854775807){n:Int}
  (hR:QR [I (if (o.aD.length:Int)≠n then 111 else D6 q b o)] h):cH.dV W QR QN QE QP (.ptr vc 0) (.ptr vo 0) (I n) h:=by
 unfold cH.dV
 simp only[aj,aF,ho,aA,zG,cK,zB,zA,ab,hq.len.1,hq.len.2,zH,cy,la]
 by_cases k:(o.aD.length:Int)=n
 ·rw[zW (by simpa using k)]at hR
  rw[zL k]
  simp only[cH.dG,ap,zS,zE,zC,zD,zH]
  exact Td hc ho hq hl hR
 ·rw[zX k]at hR
  rw[zK k]
  simpa[cH.dG] using hR
theorem Ps(hc:h.obj vc=some (aI [I q,I b,nL] 3 24))(ho:h.obj vo=some (aI (cK (o,xa)) 7 38))(hq:cb dx 1 3 h xa o.aD)(hl:o.aD.length<=9223372036854775807)
  (hR:∀h',Fr h h' (fun _=>False)->QR [I (if o.kind=1/\dE o.name=0 then 80 else if (o.aD.length:Int)≠tz o then 111 else D6 q b o)] h'):cH.iV W QR QN QE QP (.ptr vc 0) (.ptr vo 0) h:=by
 unfold cH.iV cH.jC
 simp only[aj,aF,ho,aA,zG,cK,zB,zA,ab,eO]
 unfold tz at hR
 by_cases k:o.kind=1
 ·have k':(o.kind==1)=true:=by simpa using k
  rw[k']
  simp only[cH.ir,ap,zF,zC,zD,zI,cH.jD,aj,aF,ho,aA,zG,cK,zB,zA,ab]
  refine⟨fun _=>False,fun _ h=>h.elim,Ar fun h1 f1=>?_⟩
  have hR:=hR h1 f1
  by_cases k2:dE o.name=0
  ·rw[zX ⟨k,k2⟩]at hR
   simpa[cH.jp,cH.fq,k2] using hR
  ·rw[zW (fun h=>k2 h.2),zX k]at hR
   have k2':(dE o.name==0)=false:=by simpa using k2
   simp only[cH.jp,eO,k2',cH.fq,ap,zE,zC,zD,zH]
   exact Iy (f1.bI hc) (f1.bI ho) (hq.be f1) hl hR
 ·have k':(o.kind==1)=false:=by simpa using k
  rw[k']
  have hR:=hR h Fr.refl
  rw[zW (fun h=>k h.1),zW k]at hR
  simp only[cH.ir,ap,zE,zC,zD,zH]
  exact Iy hc ho hq hl hR
theorem Pq(hc:h.obj vc=some (aI [I q,I b,nL] 3 24))(ho:h.obj vo=some (aI (cK (o,xa)) 7 38))(hq:cb dx 1 3 h xa o.aD)(hl:o.aD.length<=9223372036854775807)
  (hR:∀h',Fr h h' (fun _=>False)->QR [I (if kE o then 120 else if o.kind=1/\dE o.name=0 then 80 else if (o.aD.length:Int)≠tz o then 111 else D6 q b o)] h'):cH.qv W QR QN QE QP (.ptr vc 0) (.ptr vo 0) h:=by
 have fin:∀c:Bool,c=kE o->cH.iN W QR QN QE QP (.ptr vc 0) (.ptr vo 0) (B c) h:=fun c wU=>by
  rw[<-wU]at hR
  cases c with
  |true=>simpa[cH.iN] using hR h Fr.refl
  |false=>
   simp only[cH.iN,ap,zE,zC,zD,zH]
   exact Ps hc ho hq hl hR
 have f1:=fin _ rfl
 unfold kE at f1
 have e0:(⟨#[]⟩:ByteArray)=ByteArray.empty:=rfl
 revert f1
 cases k1:(o.kind==1)<;>by_cases k2:o.name=ByteArray.empty<;>cases k3:(o.kind==2)<;>cases k4:(o.bit==0)<;>intro f1 <;>
  simp[-cH.iN,bne,k1,k2,k3,k4]at f1<;>simp[-cH.iN,bne,ho,hc,cK,k1,k2,k3,k4,e0]<;>exact f1
end
end
section
open Go.Ab
attribute [-simp] aH az
section
variable {W:Nat->Prop} {QR QN:VK} {QE:Nat->VK} {QP:AV->AH->Prop} {h:AH} {vc vo:Nat} {q b:Int} {nL xa:AV} {o:bq}
theorem KN{t:TypeId}{c:Bool}{x y:Int}{K:AV->Prop}:ag Pg .andNot t c (U x) (U y) K=K (U (te x y)):=by
 simp[ag,te]
theorem Pr{kn:Bool}(ho:h.obj vo=some (aI (cK (o,xa)) 7 38))
  (hK:cH.km W QR QN QE QP (.ptr vc 0) (.ptr vo 0) (B (!kn||(o.cond&&o.cR==0)||(!o.cond&&(o.cR != 0||o.value != 0))||(te o.cR (sL b) != 0)||(te o.value o.cR != 0))) h):cH.E8 W QR QN QE QP (.ptr vc 0) (.ptr vo 0) (B kn) (U (sL b)) h:=by
 revert hK
 cases kn with
 |false=>intro hK;simp[-cH.km]at hK;simp[-cH.km];exact hK
 |true=>
  cases k1:o.cond<;>cases k2:(o.cR==0)<;>cases k3:(o.value==0)<;>cases k4:(te o.cR (sL b)==0)<;>cases k5:(te o.value o.cR==0)<;>intro hK <;>
   simp[-cH.km,bne,k1,k2,k3,k4,k5]at hK<;>simp[-cH.km,bne,ho,cK,k1,k2,k3,k4,k5,KN]<;>exact hK
theorem Pt{kn:Bool}(hb:0<=b)(hc:h.obj vc=some (aI [I q,I b,nL] 3 24))(hK:cH.E8 W QR QN QE QP (.ptr vc 0) (.ptr vo 0) (B kn) (U (sL b)) h):cH.C2 W QR QN QE QP (.ptr vc 0) (.ptr vo 0) (B kn) h:=by
 unfold sL at hK
 by_cases k:b=64
 ·rw[zX k]at hK
  subst k
  simp[-cH.E8,hc,ag]
  exact hK
 ·rw[zW k]at hK
  have k':(b==64)=false:=by simpa using k
  simp only[cH.C2,aj,aF,hc,aA,zG,zB,zA,ab,ag,hb,zH,cH.PZ,k',cH.P0,ap,zE,zC,zD]
  exact hK
theorem MM(hb:0<=b)(hc:h.obj vc=some (aI [I q,I b,nL] 3 24))(ho:h.obj vo=some (aI (cK (o,xa)) 7 38))
  (hK:cH.km W QR QN QE QP (.ptr vc 0) (.ptr vo 0) (B (pK b o)) h):cH.PV W QR QN QE QP (.ptr vc 0) (.ptr vo 0) h:=by
 have f1:cH.C2 W QR QN QE QP (.ptr vc 0) (.ptr vo 0) (B (o.kind==1||o.kind==2||o.kind==3)) h:=Pt hb hc (Pr ho hK)
 revert f1
 cases k1:(o.kind==1)<;>cases k2:(o.kind==2)<;>cases k3:(o.kind==3)<;>intro f1<;>simp[-cH.C2]at f1<;>simp[-cH.C2,ho,cK,k1,k2,k3]<;>exact f1
end
section
variable {M:Nat->Prop} {R:AE->AH->Prop} {h:AH}
theorem Oz{q b:Int}{nL:AV}{y:bq×AV}(hb:0<=b)(hx:cF nL=true/\b_ nL=some [nL])(hq:cb dx 1 3 h y.2 y.1.aD)(hl:y.1.aD.length<=9223372036854775807)
  (hR:∀h',Fr h h' (fun _=>False)->R (.ret (I (iX q b y.1))) h'):aB Pg 27 [.agg [I q,I b,nL],.agg (cK y)] h M R:=by
 apply cH.aO
 unfold cH.KZ
 refine dF (by show(true&&(true&&(cF nL&&true)))=true;rw[hx.1];rfl) fun vc h1 f1 Ft oc=>?_
 refine dF (lS hq.one.1) fun vo h2 f2 Dg oo=>?_
 have bY:=f1.bQ f2
 have E5:=f2.bI oc
 obtain⟨o,xa⟩:=y
 refine MM hb E5 oo ?_
 have fin:∀c:Bool,c=pK b o->cH.km (fun id=>M id\/h.next<=id) (aK Pg [.tmp 4] R) (aK Pg [.tmp 4] R) (fun _ _ _=>False) (fun v h=>R (.b6 v) h) (.ptr vc 0) (.ptr vo 0) (B c) h2:=fun c wU=>by
  unfold iX at hR
  rw[<-wU]at hR
  cases c with
  |true=>simpa[cH.km] using hR h2 bY
  |false=>
   simp only[cH.km,ap,zE,zC,zD,zH]
   refine Pq E5 oo (hq.be bY) hl fun h3 f3=>?_
   simpa[D6] using hR h3 (bY.bQ f3)
 exact fin _ rfl
theorem G2{y:bq×AV}(hq:cF y.2=true)(hR:∀h',Fr h h' (fun _=>False)->R (.ret (I (if y.1.kind=1 then pk y.1.name else 0))) h'):aB Pg 28 [.agg (cK y)] h M R:=by
 apply Ix.aO
 unfold Ix.n5
 refine dF (lS hq) fun vo h1 f1 Ft oo=>?_
 obtain⟨o,xa⟩:=y
 by_cases k:o.kind=1
 ·simp only[zX k]at hR
  have k':(o.kind != 1)=false:=by simp[k]
  simp only[Ix.n4,aj,aF,oo,aA,zG,cK,zB,zA,ab,cy,k',Ix.n3,ap,zE,zC,zD,zH,Ix.n1]
  refine⟨fun _=>False,fun _ h=>h.elim,LL fun h2 f2=>?_⟩
  simpa using hR h2 (f1.bQ f2)
 ·simp only[zW k]at hR
  have k':(o.kind != 1)=true:=by simp[k]
  have:=hR h1 f1
  simpa[oo,cK,k'] using this
end
end
section
open Go.Ab
attribute [-simp] aH az
structure lZ (h:AH) (x:AV) (l:List (bq×AV)):Prop where
 dQ:cb cK 7 38 h x l
 qs:∀y∈l,cb dx 1 3 h y.2 y.1.aD
theorem lZ.be{h h':AH}{x:AV}{l:List (bq×AV)}(a:lZ h x l)(hf:Fr h h' fun _=>False):lZ h' x l:=⟨a.dQ.be hf,fun y hy=>(a.qs y hy).be hf⟩
def ji(o:bq):Int:=if o.kind=1 then pk o.name else 0
def gI(q b:Int):List bq->Nat->Int->Int×Int
 |[],_,_=>(0,0)
 |o::l,i,n=>if iX q b o≠0 then(i,iX q b o) else if 36<n+ji o then(i,116) else gI q b l (i+1) (n+ji o)
def eR(q b:Int)(l:List bq):Int×Int:=if q<0\/64<q\/b<0\/64<b then(0,2) else if 4096<l.length then(0,115) else gI q b l 0 0
theorem Jr(n:ByteArray):0<=pk n/\pk n<=1:=by
 unfold pk
 split
 ·rename_i x hx
  have h1:=List.mem_of_find?_eq_some hx
  have key:∀x∈kB,0<=x.2.2/\x.2.2<=1:=by decide +kernel
  exact key x h1
 ·omega
theorem Js(o:bq):0<=ji o/\ji o<=1:=by
 unfold ji
 split
 ·exact Jr _
 ·omega
section
variable {W:Nat->Prop} {QR QN:VK} {QE:Nat->VK} {QP:AV->AH->Prop} {h:AH} {vc:Nat} {q b:Int} {x:AV} {l:List (bq×AV)}
abbrev uf(r:Int×Int):List AV:=[I r.1,I r.2]
theorem Py(hW:∀id,h.next<=id->W id)(hb:0<=b)(hc:h.obj vc=some (aI [I q,I b,x] 3 24))(hx:lZ h x l)(hl:l.length<=4096)(oK:∀y∈l,y.1.aD.length<=9223372036854775807)
  (hR:∀h',Fr h h' (fun _=>False)->QR (uf (gI q b (l.map (·.1)) 0 0)) h'):lB.bM W QR QN QE QP (.ptr vc 0) (I 0) h:=by
 unfold lB.bM
 simp only[aj,aF,hc,aA,zG,zB,zA,ab,hx.dQ.len.1,hx.dQ.len.2,zH]
 unfold lB.bF
 refine cJ (ι:=Nat×Int) (fun z v h'=>v=[.ptr vc 0,I z.2,x,I l.length,I z.1]/\z.1<=l.length/\Fr h h' (fun _=>False)/\0<=z.2/\z.2<=36/\gI q b ((l.drop z.1).map (·.1)) z.1 z.2=gI q b (l.map (·.1)) 0 0) (fun z=>l.length-z.1) (0,0) ⟨rfl,by simp,Fr.refl,by simp,by simp,by simp⟩ ?_
 rintro K ⟨i,n⟩ v h' ⟨rfl,hi,hf,yH,vp,he⟩ hK
 simp only at hi yH vp he hK
 simp only[lB.cT,zN,zO]
 by_cases aJ:i<l.length
 ·have dZ:(i:Int)<l.length:=by omega
  have g1:l[i]?=some l[i]:=zJ aJ
  have w1:IntKind.i64.wrap ((i:Int)+1)=((i+1:Nat):Int):=by rw[aX (by omega) (by omega)];simp
  have U7:=hx.qs _ (List.getElem_mem aJ)
  have Fv:=oK _ (List.getElem_mem aJ)
  rw[List.drop_eq_getElem_cons aJ,List.map_cons]at he
  simp only[gI]at he
  generalize l[i]=y at *
  simp only[lB.br,bu,zL dZ,lB.ba,ap,zD,zF,zC,zI]
  unfold lB.bc
  refine iK (hx.dQ.be hf) fg (lS U7.one.1) g1 rfl rfl (fun id hid=>hW id (zR hf.next hid)) fun vn h1 f1 rA ov=>?_
  have H6:=hf.bQ f1
  unfold lB.aZ
  refine dX (H6.bI hc) rfl fun _=>?_
  refine dX ov rfl fun _=>?_
  refine⟨fun _=>False,fun _ h=>h.elim,Oz hb hx.dQ.one (U7.be H6) Fv fun h2 f2=>?_⟩
  have bY:=H6.bQ f2
  by_cases k:iX q b y.1=0
  ·rw[zW (by simpa using k)]at he
   have k':(iX q b y.1 != 0)=false:=by simp[k]
   simp only[lB.n9,cy,k',lB.n8,ap,zE,zC,zD,zH]
   unfold lB.n6
   refine dX (f2.bI ov) rfl fun _=>?_
   refine⟨fun _=>False,fun _ h=>h.elim,G2 U7.one.1 fun h3 f3=>?_⟩
   have fD:=bY.bQ f3
   have hh:=Js y.1
   have wn:IntKind.i64.wrap (n+ji y.1)=n+ji y.1:=aX (by omega) (by omega)
   show ag _ _ _ _ (I n) (I (ji y.1)) _
   simp only[bg,wn,lB.n5,gA]
   by_cases k2:36<n+ji y.1
   ·rw[zX k2]at he
    have:=hR h3 fD
    rw[<-he]at this
    simp only[gt_iff_lt,zL k2,lB.n4,ap,zD,zF,zC,zI]
    exact this
   ·rw[zW k2]at he
    simp only[gt_iff_lt,zK k2,lB.n4,ap,zD,zE,zC,zH,lB.n2,bg,w1]
    exact hK (i+1,n+ji y.1) _ _ (by simp only;omega) ⟨rfl,by simp only;omega,fD,by simp only;omega,by simp only;omega,he⟩
  ·rw[zX k]at he
   have k':(iX q b y.1 != 0)=true:=by simp[k]
   have:=hR h2 bY
   rw[<-he]at this
   simp only[lB.n9,cy,k',lB.n8,ap,zD,zF,zC,zI]
   exact this
 ·have eG:¬(i:Int)<l.length:=by omega
  rw[List.drop_of_length_le (by omega)]at he
  have:=hR h' hf
  rw[<-he]at this
  simpa[eG,gI] using this
end
section
variable {M:Nat->Prop} {R:AE->AH->Prop} {h:AH}
theorem Gp{q b:Int}{x:AV}{l:List (bq×AV)}(hx:lZ h x l)(oK:∀y∈l,y.1.aD.length<=9223372036854775807)
  (hR:∀h',Fr h h' (fun _=>False)->R (.ret (.cP (uf (eR q b (l.map (·.1)))))) h'):aB Pg 14 [.agg [I q,I b,x]] h M R:=by
 apply lB.aO
 unfold lB.cU
 refine dF (by show(true&&(true&&(cF x&&true)))=true;rw[hx.dQ.one.1];rfl) fun vc h1 f1 Ft oc=>?_
 unfold eR at hR
 by_cases k1:q<0
 ·have:=hR h1 f1
  rw[zX (.inl k1)]at this
  simpa[oc,k1] using this
 by_cases k2:64<q
 ·have:=hR h1 f1
  rw[zX (.inr (.inl k2))]at this
  simpa[oc,k1,k2] using this
 by_cases k3:b<0
 ·have:=hR h1 f1
  rw[zX (.inr (.inr (.inl k3)))]at this
  simpa[oc,k1,k2,k3] using this
 by_cases k4:64<b
 ·have:=hR h1 f1
  rw[zX (.inr (.inr (.inr k4)))]at this
  simpa[oc,k1,k2,k3,k4] using this
 rw[zW (by omega),zZ]at hR
 simp[-lB.bT,oc,k1,k2,k3,k4]
 unfold lB.bT
 simp only[aj,aF,oc,aA,zG,zB,zA,ab,hx.dQ.len.1,hx.dQ.len.2,zH,gA,gt_iff_lt]
 by_cases k5:4096<l.length
 ·have:=hR h1 f1
  rw[zX k5]at this
  have UD:(4096:Int)<l.length:=by omega
  simpa[UD] using this
 ·rw[zW k5]at hR
  have UD:¬(4096:Int)<l.length:=by omega
  simp only[zK UD,lB.bW,ap,zE,zC,zD,zH,lB.bP]
  exact Py (fun id hid=>.inr (zR f1.next hid)) (by omega) oc (hx.be f1) (by omega) oK fun h2 f2=>hR h2 (f1.bQ f2)
end
end
section
open Go.Ab
attribute [-simp] aH az
end
section
open Go.Ab
attribute [-simp] aH az
end
section
open Go.Ab
attribute [-simp] aH az
def zc(o:bq):Prop:=0<=o.cR/\o.cR<18446744073709551616/\0<=o.value/\o.value<18446744073709551616
def sO(a b:Nat):Nat:=(BitVec.ofNat 64 a &&& ~~~ BitVec.ofNat 64 b).toNat
theorem GA(a b:Nat):te a b=(sO a b:Nat):=by
 unfold te sO
 have e:IntKind.u64.bits=64:=rfl
 rw[e]
 have:=(BitVec.ofNat 64 a &&& ~~~ BitVec.ofNat 64 b).isLt
 rw[IntWalk.u64_in _ (by simp only[BitVec.ofInt_natCast];omega)]
 simp only[BitVec.ofInt_natCast]
theorem DY{a b i:Nat}:(sO a b).testBit i=(decide (i<64)&&a.testBit i&&!b.testBit i):=by
 unfold sO
 rw[BitVec.testBit_toNat,BitVec.getLsbD_and,BitVec.getLsbD_not,BitVec.getLsbD_ofNat,BitVec.getLsbD_ofNat]
 by_cases h:i<64<;>simp[h]
theorem Mt{b:Nat}(hb:b<=64):sL b=((2^b-1:Nat):Int):=by
 unfold sL
 by_cases h:(b:Int)=64
 ·rw[zX h]
  have:b=64:=by omega
  subst this
  rfl
 ·rw[zW h]
  have aJ:b<64:=by omega
  unfold Q4
  have e:IntKind.u64.bits=64:=rfl
  have hp:2^b<=2^63:=Nat.pow_le_pow_right (by decide) (by omega)
  have h1:1<=2^b:=Nat.one_le_two_pow
  rw[e,zY,Nat.min_eq_left (by omega),Int.one_mul]
  have e2:((2:Int)^b)=((2^b:Nat):Int):=by simp
  have w1:IntKind.u64.wrap ((2^b:Nat):Int)=((2^b:Nat):Int):=IntWalk.u64_in _ (by omega)
  rw[e2,w1,IntWalk.u64_in _ (by omega)]
  omega
end
end Go.Proofs.YtjehibknlmehmaaGreatDoor
