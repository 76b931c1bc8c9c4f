/- Gates, operations, and both checks of a circuit. No condition. -/
import Derived.Test.YtjehibknlmehmaaGreatGc
import Derived.Test.YtjehibknlmehmaaGreatWr
set_option maxRecDepth 100000
namespace Go.Proofs.YtjehibknlmehmaaGreat
section
open Go.Ab
attribute [-simp] aV aE
theorem Uo:jg Pg 9=true:=by kernel_rfl
theorem kz:wh Pg 9 Sb:=Nv Uo
theorem S7:pg Pg 146=some (.agg [I 0,I 0,B false,B false,Sb ⟨#[]⟩,.sc .nilFunc]):=by kernel_rfl
def JG(v:AV):Prop:=∃f a b,v=.fn f a b
section
variable {h:AH} {M:Nat->Prop} {R:AE->AH->Prop}
theorem u7{x0 x1:AV}{c0 c1:AV}(h0:cJ x0=some [c0]/\cR c0=true)(h1:cJ x1=some [c1]/\cR c1=true)(hR:∀v h',JG v->Fr h h' (fun _=>False)->R (.ret v) h'):aA Pg 103 [x0,x1] h M R:=by
 apply PG.aM
 unfold PG.n2
 refine⟨_,h0.1,by rw[List.all_cons,h0.2];rfl,_,h1.1,by rw[List.all_cons,h1.2];rfl,?_⟩
 exact hR _ _ ⟨_,_,_,rfl⟩ ((Fr.refl.alloc _).alloc _)
theorem nF{a b:Int}(hR:∀v h',JG v->Fr h h' (fun _=>False)->R (.ret v) h'):aA Pg 104 [I a,I b] h M R:=by
 apply PF.aM
 unfold PF.n2
 refine⟨_,rfl,rfl,_,rfl,rfl,?_⟩
 exact hR _ _ ⟨_,_,_,rfl⟩ ((Fr.refl.alloc _).alloc _)
theorem AB{a b c:Int}(hR:∀v h',JG v->Fr h h' (fun _=>False)->R (.ret v) h'):aA Pg 105 [I a,I b,I c] h M R:=by
 apply PD.aM
 unfold PD.n2
 refine⟨_,rfl,rfl,_,rfl,rfl,_,rfl,rfl,?_⟩
 exact hR _ _ ⟨_,_,_,rfl⟩ (((Fr.refl.alloc _).alloc _).alloc _)
theorem nB{a b c:Int}(hR:∀v h',JG v->Fr h h' (fun _=>False)->R (.ret v) h'):aA Pg 106 [I a,I b,I c] h M R:=by
 apply PC.aM
 unfold PC.n2
 refine⟨_,rfl,rfl,_,rfl,rfl,_,rfl,rfl,?_⟩
 exact hR _ _ ⟨_,_,_,rfl⟩ (((Fr.refl.alloc _).alloc _).alloc _)
theorem fS{h1 h2:AH}{n:Nat}(f:Fr h h1 (fun _=>False))(hn:h.next<=n)(g:Fr h1 h2 (·=n)):Fr h h2 (fun _=>False):=
 f.trans (g.mono fun id e=>.inr (by rw[e];exact hn))
def mv:List (ByteArray×Int×Int):=[(⟨#[105]⟩,1,0),(⟨#[120]⟩,1,0),(⟨#[121]⟩,1,0),(⟨#[122]⟩,1,0),(⟨#[104]⟩,1,1),(⟨#[115]⟩,1,0),(⟨#[115,100,103]⟩,1,0),(⟨#[116]⟩,1,0),(⟨#[116,100,103]⟩,1,0),(⟨#[118]⟩,1,1),(⟨#[118,100,103]⟩,1,1),(⟨#[119]⟩,1,0),(⟨#[119,100,103]⟩,1,0),(⟨#[99,120]⟩,2,0),(⟨#[99,121]⟩,2,0),(⟨#[99,122]⟩,2,0),(⟨#[99,104]⟩,2,1),(⟨#[99,115]⟩,2,0),(⟨#[99,115,100,103]⟩,2,0),(⟨#[115,119,97,112]⟩,2,0),(⟨#[105,115,119,97,112]⟩,2,0),(⟨#[105,115,119,97,112,100,103]⟩,2,0),(⟨#[99,99,120]⟩,3,0),(⟨#[99,99,122]⟩,3,0),(⟨#[99,115,119,97,112]⟩,3,0)]
inductive pR:List (ByteArray×Int×Int)->List (ByteArray×AV)->Prop
 |nil:pR [] []
 |snoc {t:List (ByteArray×Int×Int)} {l:List (ByteArray×AV)} {n:ByteArray} {a b:Int} {r:List AV}:pR t l->r.length=4->pR (t++[(n,a,b)]) (l++[(n,.agg (I a::I b::r))])
theorem pR.get{t:List (ByteArray×Int×Int)}{l:List (ByteArray×AV)}(hk:pR t l)(n:ByteArray):match t.find? (fun x=>decide (x.1=n)) with |some x=>∃r,fw n l=some (.agg (I x.2.1::I x.2.2::r))/\r.length=4 |none=>fw n l=none:=by
 induction hk with
 |nil=>rfl
 | @snoc t l m a b r hk hr ih=>
  rw[List.find?_append,Ol]
  cases hf:t.find? (fun x=>decide (x.1=n)) with
  |some x=>
   rw[hf]at ih
   obtain⟨r',h1,h2⟩:=ih
   exact⟨r',by rw[h1];rfl,h2⟩
  |none=>
   rw[hf]at ih
   simp only at ih
   rw[ih]
   by_cases e:m=n
   ·subst e
    simp only[List.find?_cons,decide_true,Option.none_or]
    exact⟨r,by simp[fw],hr⟩
   ·simp only[List.find?_cons,zK e,List.find?_nil,Option.none_or]
    simp only[fw]
    rw[zW (fun h=>e (Eq.symm h))]
theorem pR.Zz{t:List (ByteArray×Int×Int)}{l:List (ByteArray×AV)}(hk:pR t l){n:ByteArray}(hn:t.all (fun x=>decide (x.1≠n))=true):fw n l=none:=by
 have:=hk.get n
 have hf:t.find? (fun x=>decide (x.1=n))=none:=by
  rw[List.find?_eq_none]
  intro x hx
  have:=List.all_eq_true.1 hn x hx
  simpa using this
 rw[hf]at this
 exact this
theorem dL{n:Nat}{t:List (ByteArray×Int×Int)}{l:List (ByteArray×AV)}{nm:ByteArray}{a b:Int}{r:List AV}{W:Nat->Prop}{K:AH->Prop}(hk:pR t l)(ho:h.obj n=some (mw Sb 147 l))(hn:t.all (fun x=>decide (x.1≠nm))=true)(hr:r.length=4)(hW:W n)
  (hK:∀l' h',pR (t++[(nm,a,b)]) l'->h'.obj n=some (mw Sb 147 l')->Fr h h' (·=n)->K h'):eH Pg (some (9,146)) (.mp n) (Sb nm) (.agg (I a::I b::r)) h W K:=
 vu (enc:=Sb) kz hW ho (hk.Zz hn) fun h' h1 h2=>hK _ h' (hk.snoc hr) h1 h2
theorem FC(hR:∀n l h',h'.obj n=some (mw Sb 147 l)->pR mv l->Fr h h' (fun _=>False)->R (.ret (.mp n)) h'):aA Pg 100 [] h M R:=by
 apply JL.aM
 unfold JL.n2 JL.n1
 refine AA (enc:=Sb) fun n h1 Qs hn f1=>?_
 have kr:=pR.nil
 refine qz ⟨rfl,rfl⟩ fun z2 h2 f' _ _=>?_
 have H0:=f'.bU Qs
 have f2:=f1.cj f'
 refine⟨fun _=>False,fun _ h=>h.elim,u7 ⟨rfl,rfl⟩ ⟨rfl,rfl⟩ fun v3 h3 hv f'=>?_⟩
 obtain⟨_,_,_,rfl⟩:=hv
 have HZ:=f'.bU H0
 have f3:=f2.cj f'
 refine⟨_,rfl,?_⟩
 refine dL kr HZ (by decide +kernel) rfl (.inr hn) fun l h4 kr ho4 f'=>?_
 have f4:=fS f3 hn f'
 refine qz ⟨rfl,rfl⟩ fun z5 h5 f' _ _=>?_
 have Lj:=f'.bU ho4
 have f5:=f4.cj f'
 refine⟨fun _=>False,fun _ h=>h.elim,u7 ⟨rfl,rfl⟩ ⟨rfl,rfl⟩ fun v6 h6 hv f'=>?_⟩
 obtain⟨_,_,_,rfl⟩:=hv
 have ho6:=f'.bU Lj
 have f6:=f5.cj f'
 refine⟨_,rfl,?_⟩
 refine dL kr ho6 (by decide +kernel) rfl (.inr hn) fun l h7 kr ho7 f'=>?_
 have f7:=fS f6 hn f'
 refine qz ⟨rfl,rfl⟩ fun z8 h8 f' _ _=>?_
 have ho8:=f'.bU ho7
 have f8:=f7.cj f'
 refine⟨fun _=>False,fun _ h=>h.elim,u7 ⟨rfl,rfl⟩ ⟨rfl,rfl⟩ fun v9 h9 hv f'=>?_⟩
 obtain⟨_,_,_,rfl⟩:=hv
 have ho9:=f'.bU ho8
 have f9:=f8.cj f'
 refine⟨_,rfl,?_⟩
 refine dL kr ho9 (by decide +kernel) rfl (.inr hn) fun l mP kr aav f'=>?_
 have f10:=fS f9 hn f'
 refine⟨fun _=>False,fun _ h=>h.elim,nF fun v11 mO hv f'=>?_⟩
 obtain⟨_,_,_,rfl⟩:=hv
 have aau:=f'.bU aav
 have f11:=f10.cj f'
 refine⟨_,rfl,?_⟩
 refine dL kr aau (by decide +kernel) rfl (.inr hn) fun l rX kr aat f'=>?_
 have f12:=fS f11 hn f'
 refine⟨fun _=>False,fun _ h=>h.elim,AB fun v13 Ic hv f'=>?_⟩
 obtain⟨_,_,_,rfl⟩:=hv
 have aas:=f'.bU aat
 have f13:=f12.cj f'
 refine⟨_,rfl,?_⟩
 refine dL kr aas (by decide +kernel) rfl (.inr hn) fun l z6 kr aar f'=>?_
 have f14:=fS f13 hn f'
 refine⟨fun _=>False,fun _ h=>h.elim,nF fun v15 qf hv f'=>?_⟩
 obtain⟨_,_,_,rfl⟩:=hv
 have NK:=f'.bU aar
 have f15:=f14.cj f'
 refine⟨_,rfl,?_⟩
 refine dL kr NK (by decide +kernel) rfl (.inr hn) fun l rW kr aaq f'=>?_
 have f16:=fS f15 hn f'
 refine⟨fun _=>False,fun _ h=>h.elim,nF fun v17 nR hv f'=>?_⟩
 obtain⟨_,_,_,rfl⟩:=hv
 have aap:=f'.bU aaq
 have f17:=f16.cj f'
 refine⟨_,rfl,?_⟩
 refine dL kr aap (by decide +kernel) rfl (.inr hn) fun l rV kr aao f'=>?_
 have f18:=fS f17 hn f'
 refine⟨fun _=>False,fun _ h=>h.elim,nF fun v19 mM hv f'=>?_⟩
 obtain⟨_,_,_,rfl⟩:=hv
 have aan:=f'.bU aao
 have f19:=f18.cj f'
 refine⟨_,rfl,?_⟩
 refine dL kr aan (by decide +kernel) rfl (.inr hn) fun l rU kr aam f'=>?_
 have f20:=fS f19 hn f'
 refine⟨fun _=>False,fun _ h=>h.elim,nF fun v21 qe hv f'=>?_⟩
 obtain⟨_,_,_,rfl⟩:=hv
 have aal:=f'.bU aam
 have f21:=f20.cj f'
 refine⟨_,rfl,?_⟩
 refine dL kr aal (by decide +kernel) rfl (.inr hn) fun l sT kr aak f'=>?_
 have f22:=fS f21 hn f'
 refine⟨fun _=>False,fun _ h=>h.elim,AB fun v23 wQ hv f'=>?_⟩
 obtain⟨_,_,_,rfl⟩:=hv
 have aaj:=f'.bU aak
 have f23:=f22.cj f'
 refine⟨_,rfl,?_⟩
 refine dL kr aaj (by decide +kernel) rfl (.inr hn) fun l tY kr aai f'=>?_
 have f24:=fS f23 hn f'
 refine⟨fun _=>False,fun _ h=>h.elim,AB fun v25 nQ hv f'=>?_⟩
 obtain⟨_,_,_,rfl⟩:=hv
 have aah:=f'.bU aai
 have f25:=f24.cj f'
 refine⟨_,rfl,?_⟩
 refine dL kr aah (by decide +kernel) rfl (.inr hn) fun l nP kr aag f'=>?_
 have f26:=fS f25 hn f'
 refine qz ⟨rfl,rfl⟩ fun z27 qd f' _ _=>?_
 have aaf:=f'.bU aag
 have f27:=f26.cj f'
 refine⟨fun _=>False,fun _ h=>h.elim,u7 ⟨rfl,rfl⟩ ⟨rfl,rfl⟩ fun v28 qc hv f'=>?_⟩
 obtain⟨_,_,_,rfl⟩:=hv
 have aae:=f'.bU aaf
 have f28:=f27.cj f'
 refine⟨_,rfl,?_⟩
 refine dL kr aae (by decide +kernel) rfl (.inr hn) fun l Ib kr aad f'=>?_
 have f29:=fS f28 hn f'
 refine qz ⟨rfl,rfl⟩ fun z30 wP f' _ _=>?_
 have aac:=f'.bU aad
 have f30:=f29.cj f'
 refine⟨fun _=>False,fun _ h=>h.elim,u7 ⟨rfl,rfl⟩ ⟨rfl,rfl⟩ fun v31 D7 hv f'=>?_⟩
 obtain⟨_,_,_,rfl⟩:=hv
 have aab:=f'.bU aac
 have f31:=f30.cj f'
 refine⟨_,rfl,?_⟩
 refine dL kr aab (by decide +kernel) rfl (.inr hn) fun l wO kr aaa f'=>?_
 have f32:=fS f31 hn f'
 refine⟨fun _=>False,fun _ h=>h.elim,nB fun v33 uZ hv f'=>?_⟩
 obtain⟨_,_,_,rfl⟩:=hv
 have Z_:=f'.bU aaa
 have f33:=f32.cj f'
 refine⟨_,rfl,?_⟩
 refine dL kr Z_ (by decide +kernel) rfl (.inr hn) fun l D6 kr Z9 f'=>?_
 have f34:=fS f33 hn f'
 refine⟨_,rfl,?_⟩
 refine dL kr Z9 (by decide +kernel) rfl (.inr hn) fun l kK kr Z8 f'=>?_
 have f35:=fS f34 hn f'
 refine⟨fun _=>False,fun _ h=>h.elim,nF fun v36 wN hv f'=>?_⟩
 obtain⟨_,_,_,rfl⟩:=hv
 have Z7:=f'.bU Z8
 have f36:=f35.cj f'
 refine⟨_,rfl,?_⟩
 refine dL kr Z7 (by decide +kernel) rfl (.inr hn) fun l tX kr Z6 f'=>?_
 have f37:=fS f36 hn f'
 refine⟨_,rfl,?_⟩
 refine dL kr Z6 (by decide +kernel) rfl (.inr hn) fun l zy kr Z5 f'=>?_
 have f38:=fS f37 hn f'
 refine⟨fun _=>False,fun _ h=>h.elim,nF fun v39 tW hv f'=>?_⟩
 obtain⟨_,_,_,rfl⟩:=hv
 have Z4:=f'.bU Z5
 have f39:=f38.cj f'
 refine⟨_,rfl,?_⟩
 refine dL kr Z4 (by decide +kernel) rfl (.inr hn) fun l zx kr Z3 f'=>?_
 have f40:=fS f39 hn f'
 refine⟨fun _=>False,fun _ h=>h.elim,nF fun v41 wM hv f'=>?_⟩
 obtain⟨_,_,_,rfl⟩:=hv
 have Z2:=f'.bU Z3
 have f41:=f40.cj f'
 refine⟨_,rfl,?_⟩
 refine dL kr Z2 (by decide +kernel) rfl (.inr hn) fun l zw kr Z1 f'=>?_
 have f42:=fS f41 hn f'
 refine⟨fun _=>False,fun _ h=>h.elim,nB fun v43 QQ hv f'=>?_⟩
 obtain⟨_,_,_,rfl⟩:=hv
 have Z0:=f'.bU Z1
 have f43:=f42.cj f'
 refine⟨_,rfl,?_⟩
 refine dL kr Z0 (by decide +kernel) rfl (.inr hn) fun l wL kr ZZ f'=>?_
 have f44:=fS f43 hn f'
 refine⟨fun _=>False,fun _ h=>h.elim,nB fun v45 rS hv f'=>?_⟩
 obtain⟨_,_,_,rfl⟩:=hv
 have ZY:=f'.bU ZZ
 have f45:=f44.cj f'
 refine⟨_,rfl,?_⟩
 refine dL kr ZY (by decide +kernel) rfl (.inr hn) fun l zu kr ZX f'=>?_
 have f46:=fS f45 hn f'
 refine⟨fun _=>False,fun _ h=>h.elim,nB fun v47 wK hv f'=>?_⟩
 obtain⟨_,_,_,rfl⟩:=hv
 have ZW:=f'.bU ZX
 have f47:=f46.cj f'
 refine⟨_,rfl,?_⟩
 refine dL kr ZW (by decide +kernel) rfl (.inr hn) fun l qa kr ZV f'=>?_
 have f48:=fS f47 hn f'
 refine⟨fun _=>False,fun _ h=>h.elim,nB fun v49 wJ hv f'=>?_⟩
 obtain⟨_,_,_,rfl⟩:=hv
 have ZU:=f'.bU ZV
 have f49:=f48.cj f'
 refine⟨_,rfl,?_⟩
 refine dL kr ZU (by decide +kernel) rfl (.inr hn) fun l tV kr ZT f'=>?_
 have f50:=fS f49 hn f'
 refine⟨fun _=>False,fun _ h=>h.elim,nF fun v51 sS hv f'=>?_⟩
 obtain⟨_,_,_,rfl⟩:=hv
 have ZS:=f'.bU ZT
 have f51:=f50.cj f'
 refine⟨_,rfl,?_⟩
 refine dL kr ZS (by decide +kernel) rfl (.inr hn) fun l pb kr ZR f'=>?_
 have f52:=fS f51 hn f'
 refine⟨fun _=>False,fun _ h=>h.elim,nB fun v53 tU hv f'=>?_⟩
 obtain⟨_,_,_,rfl⟩:=hv
 have ZQ:=f'.bU ZR
 have f53:=f52.cj f'
 refine⟨_,rfl,?_⟩
 refine dL kr ZQ (by decide +kernel) rfl (.inr hn) fun l D5 kr ZP f'=>?_
 have f54:=fS f53 hn f'
 exact hR _ _ _ ZP kr f54
end
def cf(n:ByteArray):Int:=match mv.find? (fun x=>decide (x.1=n)) with |some x=>x.2.1 |none=>0
def jZ(n:ByteArray):Int:=match mv.find? (fun x=>decide (x.1=n)) with |some x=>x.2.2 |none=>0
section
variable {h:AH} {M:Nat->Prop} {R:AE->AH->Prop}
theorem AT{n:ByteArray}(hR:∀h',Fr h h' (fun _=>False)->R (.ret (I (cf n))) h'):aA Pg 90 [Sb n] h M R:=by
 apply Re.aM
 unfold Re.n2 Re.n1
 refine⟨fun _=>False,fun _ h=>h.elim,FC fun m l h1 ho kr f1=>?_⟩
 refine jo (enc:=Sb) kz S7 ho fun _=>?_
 have hg:=kr.get n
 unfold cf at hR
 cases hf:mv.find? (fun x=>decide (x.1=n)) with
 |none=>
  rw[hf]at hg hR
  simp only at hg
  rw[hg]
  simp[im,m9]
  exact hR h1 f1
 |some x=>
  rw[hf]at hg hR
  obtain⟨r,hg,hr⟩:=hg
  rw[hg]
  simp[im,m9]
  exact hR h1 f1
theorem Lu{n:ByteArray}(hR:∀h',Fr h h' (fun _=>False)->R (.ret (I (jZ n))) h'):aA Pg 92 [Sb n] h M R:=by
 apply Rc.aM
 unfold Rc.n2 Rc.n1
 refine⟨fun _=>False,fun _ h=>h.elim,FC fun m l h1 ho kr f1=>?_⟩
 refine jo (enc:=Sb) kz S7 ho fun _=>?_
 have hg:=kr.get n
 unfold jZ at hR
 cases hf:mv.find? (fun x=>decide (x.1=n)) with
 |none=>
  rw[hf]at hg hR
  simp only at hg
  rw[hg]
  simp[im,m9]
  exact hR h1 f1
 |some x=>
  rw[hf]at hg hR
  obtain⟨r,hg,hr⟩:=hg
  rw[hg]
  simp[im,m9]
  exact hR h1 f1
end
end
section
open Go.Ab
attribute [-simp] aV aE
section
variable {h:AH} {M:Nat->Prop} {R:AE->AH->Prop}
theorem oq{n:ByteArray}(hR:R (.ret (I (cf n))) h):aA Pg 76 [Sb n] h M R:=by
 apply YE.aM
 by_cases k0:n=⟨#[105]⟩
 ·subst k0
  rw[show cf ⟨#[105]⟩=1 by decide +kernel]at hR
  simp(decide:=true)
  exact hR
 by_cases k1:n=⟨#[120]⟩
 ·subst k1
  rw[show cf ⟨#[120]⟩=1 by decide +kernel]at hR
  simp(decide:=true)
  exact hR
 by_cases k2:n=⟨#[121]⟩
 ·subst k2
  rw[show cf ⟨#[121]⟩=1 by decide +kernel]at hR
  simp(decide:=true)
  exact hR
 by_cases k3:n=⟨#[122]⟩
 ·subst k3
  rw[show cf ⟨#[122]⟩=1 by decide +kernel]at hR
  simp(decide:=true)
  exact hR
 by_cases k4:n=⟨#[104]⟩
 ·subst k4
  rw[show cf ⟨#[104]⟩=1 by decide +kernel]at hR
  simp(decide:=true)
  exact hR
 by_cases k5:n=⟨#[115]⟩
 ·subst k5
  rw[show cf ⟨#[115]⟩=1 by decide +kernel]at hR
  simp(decide:=true)
  exact hR
 by_cases k6:n=⟨#[115,100,103]⟩
 ·subst k6
  rw[show cf ⟨#[115,100,103]⟩=1 by decide +kernel]at hR
  simp(decide:=true)
  exact hR
 by_cases k7:n=⟨#[116]⟩
 ·subst k7
  rw[show cf ⟨#[116]⟩=1 by decide +kernel]at hR
  simp(decide:=true)
  exact hR
 by_cases k8:n=⟨#[116,100,103]⟩
 ·subst k8
  rw[show cf ⟨#[116,100,103]⟩=1 by decide +kernel]at hR
  simp(decide:=true)
  exact hR
 by_cases k9:n=⟨#[118]⟩
 ·subst k9
  rw[show cf ⟨#[118]⟩=1 by decide +kernel]at hR
  simp(decide:=true)
  exact hR
 by_cases cZ:n=⟨#[118,100,103]⟩
 ·subst cZ
  rw[show cf ⟨#[118,100,103]⟩=1 by decide +kernel]at hR
  simp(decide:=true)
  exact hR
 by_cases dB:n=⟨#[119]⟩
 ·subst dB
  rw[show cf ⟨#[119]⟩=1 by decide +kernel]at hR
  simp(decide:=true)
  exact hR
 by_cases eU:n=⟨#[119,100,103]⟩
 ·subst eU
  rw[show cf ⟨#[119,100,103]⟩=1 by decide +kernel]at hR
  simp(decide:=true)
  exact hR
 by_cases fi:n=⟨#[99,120]⟩
 ·subst fi
  rw[show cf ⟨#[99,120]⟩=2 by decide +kernel]at hR
  simp(decide:=true)
  exact hR
 by_cases ir:n=⟨#[99,121]⟩
 ·subst ir
  rw[show cf ⟨#[99,121]⟩=2 by decide +kernel]at hR
  simp(decide:=true)
  exact hR
 by_cases iq:n=⟨#[99,122]⟩
 ·subst iq
  rw[show cf ⟨#[99,122]⟩=2 by decide +kernel]at hR
  simp(decide:=true)
  exact hR
 by_cases hH:n=⟨#[99,104]⟩
 ·subst hH
  rw[show cf ⟨#[99,104]⟩=2 by decide +kernel]at hR
  simp(decide:=true)
  exact hR
 by_cases jA:n=⟨#[99,115]⟩
 ·subst jA
  rw[show cf ⟨#[99,115]⟩=2 by decide +kernel]at hR
  simp(decide:=true)
  exact hR
 by_cases lx:n=⟨#[99,115,100,103]⟩
 ·subst lx
  rw[show cf ⟨#[99,115,100,103]⟩=2 by decide +kernel]at hR
  simp(decide:=true)
  exact hR
 by_cases ml:n=⟨#[115,119,97,112]⟩
 ·subst ml
  rw[show cf ⟨#[115,119,97,112]⟩=2 by decide +kernel]at hR
  simp(decide:=true)
  exact hR
 by_cases lP:n=⟨#[105,115,119,97,112]⟩
 ·subst lP
  rw[show cf ⟨#[105,115,119,97,112]⟩=2 by decide +kernel]at hR
  simp(decide:=true)
  exact hR
 by_cases nf:n=⟨#[105,115,119,97,112,100,103]⟩
 ·subst nf
  rw[show cf ⟨#[105,115,119,97,112,100,103]⟩=2 by decide +kernel]at hR
  simp(decide:=true)
  exact hR
 by_cases kV:n=⟨#[99,99,120]⟩
 ·subst kV
  rw[show cf ⟨#[99,99,120]⟩=3 by decide +kernel]at hR
  simp(decide:=true)
  exact hR
 by_cases mj:n=⟨#[99,99,122]⟩
 ·subst mj
  rw[show cf ⟨#[99,99,122]⟩=3 by decide +kernel]at hR
  simp(decide:=true)
  exact hR
 by_cases mI:n=⟨#[99,115,119,97,112]⟩
 ·subst mI
  rw[show cf ⟨#[99,115,119,97,112]⟩=3 by decide +kernel]at hR
  simp(decide:=true)
  exact hR
 have e:cf n=0:=by
  unfold cf
  rw[show mv.find? (fun x=>decide (x.1=n))=none from ?_]
  rw[List.find?_eq_none]
  intro x hx
  simp only[decide_eq_true_eq]
  rintro rfl
  simp only[mv,List.mem_cons,List.not_mem_nil,or_false]at hx
  rcases hx with rfl |rfl |rfl |rfl |rfl |rfl |rfl |rfl |rfl |rfl |rfl |rfl |rfl |rfl |rfl |rfl |rfl |rfl |rfl |rfl |rfl |rfl |rfl |rfl |rfl
  all_goals (first |exact k0 rfl |exact k1 rfl |exact k2 rfl |exact k3 rfl |exact k4 rfl |exact k5 rfl |exact k6 rfl |exact k7 rfl |exact k8 rfl |exact k9 rfl |exact cZ rfl |exact dB rfl |exact eU rfl |exact fi rfl |exact ir rfl |exact iq rfl |exact hH rfl |exact jA rfl |exact lx rfl |exact ml rfl |exact lP rfl |exact nf rfl |exact kV rfl |exact mj rfl |exact mI rfl)
 rw[e]at hR
 simp[k0,k1,k2,k3,k4,k5,k6,k7,k8,k9,cZ,dB,eU,fi,ir,iq,hH,jA,lx,ml,lP,nf,kV,mj,mI]
 exact hR
theorem E9{n:ByteArray}(hR:R (.ret (I (jZ n))) h):aA Pg 79 [Sb n] h M R:=by
 apply YD.aM
 by_cases k0:n=⟨#[104]⟩
 ·subst k0
  rw[show jZ ⟨#[104]⟩=1 by decide +kernel]at hR
  simp(decide:=true)
  exact hR
 by_cases k1:n=⟨#[118]⟩
 ·subst k1
  rw[show jZ ⟨#[118]⟩=1 by decide +kernel]at hR
  simp(decide:=true)
  exact hR
 by_cases k2:n=⟨#[118,100,103]⟩
 ·subst k2
  rw[show jZ ⟨#[118,100,103]⟩=1 by decide +kernel]at hR
  simp(decide:=true)
  exact hR
 by_cases k3:n=⟨#[99,104]⟩
 ·subst k3
  rw[show jZ ⟨#[99,104]⟩=1 by decide +kernel]at hR
  simp(decide:=true)
  exact hR
 have e:jZ n=0:=by
  unfold jZ
  split
  ·rename_i x hx
   have h1:=List.mem_of_find?_eq_some hx
   have h2:=List.find?_some hx
   simp only[decide_eq_true_eq]at h2
   subst h2
   simp only[mv,List.mem_cons,List.not_mem_nil,or_false]at h1
   rcases h1 with rfl |rfl |rfl |rfl |rfl |rfl |rfl |rfl |rfl |rfl |rfl |rfl |rfl |rfl |rfl |rfl |rfl |rfl |rfl |rfl |rfl |rfl |rfl |rfl |rfl
   all_goals (first |rfl |exact absurd rfl k0 |exact absurd rfl k1 |exact absurd rfl k2 |exact absurd rfl k3)
  ·rfl
 rw[e]at hR
 simp[k0,k1,k2,k3]
 exact hR
def gy{α:Type}[DecidableEq α](x:α):List α->Nat->Option Nat
 |[],_=>none
 |a::l,i=>if x=a then some i else gy x l (i+1)
end
end
section
open Go.Ab
attribute [-simp] aV aE
def cX(n:Int):List AV:=[I n]
def iL(s:ByteArray):List AV:=[Sb s]
theorem gJ(n:Int):(cX n).length=1:=rfl
theorem AN(n:ByteArray):(iL n).length=1:=rfl
def fe{α:Type}[DecidableEq α](x:α)(l:List α):Bool:=(gy x l 0).isSome
theorem xM{α:Type}[DecidableEq α]{x:α}:∀{l:List α}{i j:Nat},gy x l i=some j->i<=j/\x∈l
 |a::l,i,j,h=>by
  simp only[gy]at h
  split at h
  ·rename_i e;cases h;exact⟨zU _,by rw[e];simp⟩
  ·have:=xM h;exact⟨by omega,by simp[this.2]⟩
theorem DS{α:Type}[DecidableEq α]{x:α}:∀{l:List α}{i:Nat},gy x l i=none->x∉l
 |[],_,_=>by simp
 |a::l,i,h=>by
  simp only[gy]at h
  split at h
  ·cases h
  ·rename_i e
   have:=DS h
   simp only[List.mem_cons,not_or]
   exact⟨e,this⟩
section
variable {h:AH} {M:Nat->Prop} {R:AE->AH->Prop}
theorem K6{x:AV}{l:List Int}{q:Int}(hx:cK cX 1 3 h x l)(hl:l.length<=9000000000000000000)(hR:R (.ret (I (match gy q l 0 with |some j=>j |none=>-1))) h):aA Pg 101 [x,I q] h M R:=by
 apply nA.aM
 simp only[nA.bj,nA.aS,hx.len.1,hx.len.2,zH]
 unfold nA.n9
 refine cy (ι:=Nat) (fun i v h'=>v=[x,I q,I l.length,I i]/\i<=l.length/\h'=h/\gy q (l.drop i) i=gy q l 0) (fun i=>l.length-i) 0 ⟨rfl,by omega,rfl,rfl⟩ ?_
 rintro K i v h' ⟨rfl,hi,rfl,he⟩ hK
 simp only[nA.cG,zN,zO]
 by_cases aL:i<l.length
 ·have fH:(i:Int)<l.length:=by omega
  have g1:l[i]?=some l[i]:=zJ aL
  have w1:IntKind.i64.wrap ((i:Int)+1)=((i+1:Nat):Int):=by rw[aR (by omega) (by omega)];simp
  rw[List.drop_eq_getElem_cons aL]at he
  simp only[gy]at he
  generalize l[i]=y at *
  simp only[nA.n8,bc,zL fH,nA.n7,al,zD,zF,zC,zI,nA.n6,nA.n5]
  refine ja hx gJ g1 rfl fun _=>?_
  rw[eG]
  by_cases e:q=y
  ·rw[zX e]at he
   rw[<-he]at hR
   simp only[beq_iff_eq.2 e,nA.n4,al,zD,zF,zC,zI,nA.n3]
   simpa using hR
  ·rw[zW e]at he
   simp only[beq_eq_false_iff_ne.2 e,nA.n4,al,zD,zE,zC,zH,nA.n2,aZ,w1]
   exact hK (i+1) _ _ (by omega) ⟨rfl,by omega,rfl,he⟩
 ·have eV:¬(i:Int)<l.length:=by omega
  rw[List.drop_of_length_le (by omega)]at he
  rw[<-he]at hR
  simp only[nA.n8,bc,zK eV,nA.n7,al,zD,zE,zC,zH,zV,nA.n1]
  simpa[gy] using hR
theorem GP{x:AV}{l:List Int}{q:Int}(hx:cK cX 1 3 h x l)(hl:l.length<=9000000000000000000)(hR:R (.ret (B (fe q l))) h):aA Pg 91 [x,I q] h M R:=by
 apply Rd.aM
 unfold Rd.n2 Rd.n1
 refine⟨fun _=>False,fun _ h=>h.elim,K6 hx hl ?_⟩
 unfold fe at hR
 simp only[iU]
 cases hj:gy q l 0 with
 |some j=>
  rw[hj]at hR
  have h1:(0:Int)<=j:=by omega
  simp only[ge_iff_le,zL h1]
  simpa using hR
 |none=>
  rw[hj]at hR
  simpa using hR
theorem K5{x:AV}{l:List ByteArray}{q:ByteArray}(hx:cK iL 1 9 h x l)(hl:l.length<=9000000000000000000)(hR:R (.ret (I (match gy q l 0 with |some j=>j |none=>-1))) h):aA Pg 102 [x,Sb q] h M R:=by
 apply nz.aM
 simp only[nz.bj,nz.aS,hx.len.1,hx.len.2,zH]
 unfold nz.n9
 refine cy (ι:=Nat) (fun i v h'=>v=[x,Sb q,I l.length,I i]/\i<=l.length/\h'=h/\gy q (l.drop i) i=gy q l 0) (fun i=>l.length-i) 0 ⟨rfl,by omega,rfl,rfl⟩ ?_
 rintro K i v h' ⟨rfl,hi,rfl,he⟩ hK
 simp only[nz.cG,zN,zO]
 by_cases aL:i<l.length
 ·have fH:(i:Int)<l.length:=by omega
  have g1:l[i]?=some l[i]:=zJ aL
  have w1:IntKind.i64.wrap ((i:Int)+1)=((i+1:Nat):Int):=by rw[aR (by omega) (by omega)];simp
  rw[List.drop_eq_getElem_cons aL]at he
  simp only[gy]at he
  generalize l[i]=y at *
  simp only[nz.n8,bc,zL fH,nz.n7,al,zD,zF,zC,zI,nz.n6,nz.n5]
  refine ja hx AN g1 rfl fun _=>?_
  rw[br]
  by_cases e:q=y
  ·rw[zX e]at he
   rw[<-he]at hR
   simp only[zL e,nz.n4,al,zD,zF,zC,zI,nz.n3]
   simpa using hR
  ·rw[zW e]at he
   simp only[zK e,nz.n4,al,zD,zE,zC,zH,nz.n2,aZ,w1]
   exact hK (i+1) _ _ (by omega) ⟨rfl,by omega,rfl,he⟩
 ·have eV:¬(i:Int)<l.length:=by omega
  rw[List.drop_of_length_le (by omega)]at he
  rw[<-he]at hR
  simp only[nz.n8,bc,zK eV,nz.n7,al,zD,zE,zC,zH,zV,nz.n1]
  simpa[gy] using hR
theorem GN{x:AV}{l:List ByteArray}{q:ByteArray}(hx:cK iL 1 9 h x l)(hl:l.length<=9000000000000000000)(hR:R (.ret (B (fe q l))) h):aA Pg 99 [x,Sb q] h M R:=by
 apply Rb.aM
 unfold Rb.n2 Rb.n1
 refine⟨fun _=>False,fun _ h=>h.elim,K5 hx hl ?_⟩
 unfold fe at hR
 simp only[iU]
 cases hj:gy q l 0 with
 |some j=>
  rw[hj]at hR
  have h1:(0:Int)<=j:=by omega
  simp only[ge_iff_le,zL h1]
  simpa using hR
 |none=>
  rw[hj]at hR
  simpa using hR
end
end
section
open Go.Ab
attribute [-simp] aV aE
structure eY where
 kind:Int
 name:ByteArray
 aN:List Int
 bit:Int
 cond:Bool
 cQ:Int
 value:Int
def ch(y:eY×AV):List AV:=[I y.1.kind,Sb y.1.name,y.2,I y.1.bit,B y.1.cond,U y.1.cQ,U y.1.value]
theorem gX(y:eY×AV):(ch y).length=7:=rfl
theorem kC{y:eY×AV}(h:cR y.2=true):(ch y).all cR=true:=by
 show(true&&(true&&(cR y.2&&(true&&(true&&(true&&(true&&true)))))))=true
 rw[h];rfl
def mz(a b:Int):Int:=IntKind.u64.wrap (BitVec.ofInt IntKind.u64.bits a &&& ~~~ BitVec.ofInt IntKind.u64.bits b).toNat
def Q3(b:Int):Int:=IntKind.u64.wrap (IntKind.u64.wrap (1*2^(min b.toNat IntKind.u64.bits))-1)
def qH(b:Int):Int:=if b=64 then 18446744073709551615 else Q3 b
def y0(b:Int)(o:eY):Bool:=!(o.kind==1||o.kind==2||o.kind==3)||(o.cond&&o.cQ==0)||(!o.cond&&(o.cQ != 0||o.value != 0))||(mz o.cQ (qH b) != 0)||(mz o.value o.cQ != 0)
def lH(o:eY):Bool:=(o.kind != 1&&!decide (o.name=ByteArray.empty))||(o.kind != 2&&o.bit != 0)
def Ft(o:eY):Int:=if o.kind=1 then cf o.name else 1
def Ax(q:Int)(l:List Int):Bool:=l.any fun z=>decide (z<0)||decide (q<=z)
def sZ(l:List Int):Bool:=(List.range l.length).any fun i=>fe (l.getD i 0) (l.take i)
def pP(q b:Int)(o:eY):Int:=
 if y0 b o then 120 else if lH o then 120 else if o.kind=1/\cf o.name=0 then 80 else if (o.aN.length:Int)≠Ft o then 111
 else if Ax q o.aN then 112 else if o.kind=2/\(o.bit<0\/b<=o.bit) then 112 else if sZ o.aN then 113 else 0
theorem LW{l:List Int}{i:Nat}(hi:i<l.length)(h:fe l[i] (l.take i)=true):sZ l=true:=by
 unfold sZ
 rw[List.any_eq_true]
 exact⟨i,List.mem_range.2 hi,by rw[List.getD_eq_getElem?_getD,zJ hi];exact h⟩
theorem LV{l:List Int}(h:∀i (hi:i<l.length),fe l[i] (l.take i)=false):sZ l=false:=by
 unfold sZ
 rw[List.any_eq_false]
 intro i hi
 have:=List.mem_range.1 hi
 rw[List.getD_eq_getElem?_getD,zJ this]
 simp only[Option.getD_some,h i this]
 decide
theorem KG{q:Int}{l:List Int}{i:Nat}(hi:i<l.length)(h:l[i]<0\/q<=l[i]):Ax q l=true:=by
 unfold Ax
 rw[List.any_eq_true]
 exact⟨l[i],List.getElem_mem hi,by simpa using h⟩
theorem KF{q:Int}{l:List Int}(h:∀i (hi:i<l.length),¬(l[i]<0\/q<=l[i])):Ax q l=false:=by
 unfold Ax
 rw[List.any_eq_false]
 intro z hz
 obtain⟨i,hi,rfl⟩:=List.mem_iff_getElem.1 hz
 simpa using h i hi
theorem OX{α:Type}{f:α->List AV}{sz:Nat}{ty:TypeId}{h:AH}{x:AV}{l:List α}{K:AV->Prop}(hx:cK f sz ty h x l){i:Nat}(hi:i<l.length)
  (hK:∀y,cK f sz ty h y (l.take i)->K y):ur (some sz) x none (some (I i)) h K:=by
 rcases hx with⟨_,rfl⟩ |⟨_,_,_,rfl⟩ |⟨id,rest,ro,mC,rfl,h1,h2⟩
 ·simp at hi
 ·simp at hi
 ·refine L3 (by omega) (hK _ (.inr (.inr ⟨id,(l.drop i).flatMap f++rest,ro,mC,by rw[yA,Nat.min_eq_left (by omega)],h1,?_⟩)))
  rw[h2,<-List.append_assoc,<-List.flatMap_append,List.take_append_drop]
section
variable {W:Nat->Prop} {QR QN:VK} {QE:Nat->VK} {QP:AV->AH->Prop} {h:AH} {vc vo:Nat} {q b:Int} {ph xa:AV} {o:eY}
theorem SF(ho:h.obj vo=some (aP (ch (o,xa)) 7 36))(hq:cK cX 1 3 h xa o.aN)(hl:o.aN.length<=9000000000000000000)
  (hR:QR [I (if sZ o.aN then 113 else 0)] h):dw.aS W QR QN QE QP (.ptr vo 0) h:=by
 unfold dw.aS
 simp only[aj,au,ho,ap,zG,ch,zB,zA,aa,hq.len.1,hq.len.2,zH]
 unfold dw.n9
 refine cy (ι:=Nat) (fun i v h'=>v=[.ptr vo 0,xa,I o.aN.length,I i]/\i<=o.aN.length/\h'=h/\∀j (hj:j<o.aN.length),j<i->fe o.aN[j] (o.aN.take j)=false) (fun i=>o.aN.length-i) 0 ⟨rfl,by omega,rfl,fun j _ h=>by omega⟩ ?_
 rintro K i v h' ⟨rfl,hi,rfl,hb⟩ hK
 simp only[dw.cG,zN,zO]
 by_cases aL:i<o.aN.length
 ·have fH:(i:Int)<o.aN.length:=by omega
  have g1:o.aN[i]?=some o.aN[i]:=zJ aL
  have w1:IntKind.i64.wrap ((i:Int)+1)=((i+1:Nat):Int):=by rw[aR (by omega) (by omega)];simp
  have key:=fun hh=>LW (l:=o.aN) aL hh
  have sQ:fe o.aN[i] (o.aN.take i)=false->∀j (hj:j<o.aN.length),j<i+1->fe o.aN[j] (o.aN.take j)=false:=fun h0 j hj mq=>by
   rcases Nat.lt_succ_iff_lt_or_eq.1 mq with h1 |h1
   ·exact hb j hj h1
   ·subst h1;exact h0
  generalize o.aN[i]=y at *
  simp only[dw.n8,bc,zL fH,dw.n7,al,zD,zF,zC,zI,dw.n6]
  refine ja hq gJ g1 rfl fun _=>?_
  simp only[dw.n5,aj,au,ho,ap,zG,ch,zB,zA,aa]
  refine OX hq aL fun z hz=>?_
  refine⟨fun _=>False,fun _ h=>h.elim,GP hz (by rw[yA];omega) ?_⟩
  cases hm:fe y (o.aN.take i) with
  |true=>
   rw[key hm]at hR
   simpa using hR
  |false=>
   simp only[dw.n4,al,zE,zC,zD,zH,dw.n2,aZ,w1]
   exact hK (i+1) _ _ (by omega) ⟨rfl,by omega,rfl,sQ hm⟩
 ·have eV:¬(i:Int)<o.aN.length:=by omega
  rw[LV fun j hj=>hb j hj (by omega)]at hR
  simpa[eV] using hR
theorem SG(hc:h.obj vc=some (aP [I q,I b,ph] 3 25))(ho:h.obj vo=some (aP (ch (o,xa)) 7 36))(hq:cK cX 1 3 h xa o.aN)(hl:o.aN.length<=9000000000000000000)
  (hR:QR [I (if o.kind=2/\(o.bit<0\/b<=o.bit) then 112 else if sZ o.aN then 113 else 0)] h):dw.b5 W QR QN QE QP (.ptr vc 0) (.ptr vo 0) h:=by
 have fin:∀c:Bool,c=decide (o.kind=2/\(o.bit<0\/b<=o.bit))->dw.a_ W QR QN QE QP (.ptr vo 0) (B c) h:=fun c rP=>by
  cases c with
  |true=>
   rw[zX (of_decide_eq_true rP.symm)]at hR
   simpa[dw.a_] using hR
  |false=>
   rw[zW (of_decide_eq_false rP.symm)]at hR
   simp only[dw.a_,al,zE,zC,zD,zH]
   exact SF ho hq hl hR
 have f1:=fin _ rfl
 by_cases k1:o.kind=2
 ·by_cases k2:o.bit<0
  ·simp[-dw.a_,k1,k2]at f1
   simp[-dw.a_,ho,hc,ch,k1,k2]
   exact f1
  ·by_cases k3:b<=o.bit
   ·simp[-dw.a_,k1,k2,k3]at f1
    simp[-dw.a_,ho,hc,ch,k1,k2,k3]
    exact f1
   ·simp[-dw.a_,k1,k2,k3]at f1
    simp[-dw.a_,ho,hc,ch,k1,k2,k3]
    exact f1
 ·simp[-dw.a_,k1]at f1
  have eI:(o.kind==2)=false:=by simpa using k1
  simp[-dw.a_,ho,hc,ch,eI]
  exact f1
theorem SE(hc:h.obj vc=some (aP [I q,I b,ph] 3 25))(ho:h.obj vo=some (aP (ch (o,xa)) 7 36))(hq:cK cX 1 3 h xa o.aN)(hl:o.aN.length<=9000000000000000000)
  (hR:QR [I (if Ax q o.aN then 112 else if o.kind=2/\(o.bit<0\/b<=o.bit) then 112 else if sZ o.aN then 113 else 0)] h):dw.c9 W QR QN QE QP (.ptr vc 0) (.ptr vo 0) h:=by
 unfold dw.c9
 simp only[aj,au,ho,ap,zG,ch,zB,zA,aa,hq.len.1,hq.len.2,zH]
 unfold dw.cB
 refine cy (ι:=Nat) (fun i v h'=>v=[.ptr vc 0,.ptr vo 0,xa,I o.aN.length,I i]/\i<=o.aN.length/\h'=h/\∀j (hj:j<o.aN.length),j<i->¬(o.aN[j]<0\/q<=o.aN[j])) (fun i=>o.aN.length-i) 0 ⟨rfl,by omega,rfl,fun j _ h=>by omega⟩ ?_
 rintro K i v h' ⟨rfl,hi,rfl,hb⟩ hK
 simp only[dw.iX,zN,zO]
 by_cases aL:i<o.aN.length
 ·have fH:(i:Int)<o.aN.length:=by omega
  have g1:o.aN[i]?=some o.aN[i]:=zJ aL
  have w1:IntKind.i64.wrap ((i:Int)+1)=((i+1:Nat):Int):=by rw[aR (by omega) (by omega)];simp
  have key:=fun hh=>KG (q:=q) (l:=o.aN) aL hh
  have sQ:¬(o.aN[i]<0\/q<=o.aN[i])->∀j (hj:j<o.aN.length),j<i+1->¬(o.aN[j]<0\/q<=o.aN[j]):=fun h0 j hj mq=>by
   rcases Nat.lt_succ_iff_lt_or_eq.1 mq with h1 |h1
   ·exact hb j hj h1
   ·subst h1;exact h0
  generalize o.aN[i]=y at *
  simp only[dw.cC,bc,zL fH,dw.cF,al,zD,zF,zC,zI]
  unfold dw.cS
  refine ja hq gJ g1 rfl fun _=>?_
  by_cases k1:y<0
  ·rw[key (.inl k1)]at hR
   simp[dw.cL,dw.cw,dw.cT,dw.cP,k1]
   simpa using hR
  ·by_cases k2:q<=y
   ·rw[key (.inr k2)]at hR
    simp[dw.cL,dw.cw,dw.cT,dw.cP,k1,hc,k2]
    simpa using hR
   ·simp[dw.cL,dw.cw,dw.cT,dw.cP,k1,hc,k2,w1]
    exact hK (i+1) _ _ (by omega) ⟨rfl,by omega,rfl,sQ (by omega)⟩
 ·have eV:¬(i:Int)<o.aN.length:=by omega
  rw[KF fun j hj=>hb j hj (by omega)]at hR
  simp[-dw.b5,eV]
  exact SG hc ho hq hl (by simpa using hR)
def qD(q b:Int)(o:eY):Int:=if Ax q o.aN then 112 else if o.kind=2/\(o.bit<0\/b<=o.bit) then 112 else if sZ o.aN then 113 else 0
theorem IA(hc:h.obj vc=some (aP [I q,I b,ph] 3 25))(ho:h.obj vo=some (aP (ch (o,xa)) 7 36))(hq:cK cX 1 3 h xa o.aN)(hl:o.aN.length<=9000000000000000000){n:Int}
  (hR:QR [I (if (o.aN.length:Int)≠n then 111 else qD q b o)] h):dw.dS W QR QN QE QP (.ptr vc 0) (.ptr vo 0) (I n) h:=by
 unfold dw.dS
 simp only[aj,au,ho,ap,zG,ch,zB,zA,aa,hq.len.1,hq.len.2,zH,cq,qt]
 by_cases k:(o.aN.length:Int)=n
 ·rw[zW (by simpa using k)]at hR
  rw[zL k]
  simp only[dw.dn,al,zS,zE,zC,zD,zH]
  exact SE hc ho hq hl hR
 ·rw[zX k]at hR
  rw[zK k]
  simpa[dw.dn] using hR
theorem Pa(hc:h.obj vc=some (aP [I q,I b,ph] 3 25))(ho:h.obj vo=some (aP (ch (o,xa)) 7 36))(hq:cK cX 1 3 h xa o.aN)(hl:o.aN.length<=9000000000000000000)
  (hR:∀h',Fr h h' (fun _=>False)->QR [I (if o.kind=1/\cf o.name=0 then 80 else if (o.aN.length:Int)≠Ft o then 111 else qD q b o)] h'):dw.fL W QR QN QE QP (.ptr vc 0) (.ptr vo 0) h:=by
 unfold dw.fL dw.fD
 simp only[aj,au,ho,ap,zG,ch,zB,zA,aa,eG]
 unfold Ft at hR
 by_cases k:o.kind=1
 ·have k':(o.kind==1)=true:=by simpa using k
  rw[k']
  simp only[dw.fu,al,zF,zC,zD,zI,dw.fM,aj,au,ho,ap,zG,ch,zB,zA,aa]
  refine⟨fun _=>False,fun _ h=>h.elim,AT fun h1 f1=>?_⟩
  have hR:=hR h1 f1
  by_cases k2:cf o.name=0
  ·rw[zX ⟨k,k2⟩]at hR
   simpa[dw.fl,dw.eC,k2] using hR
  ·rw[zW (fun h=>k2 h.2),zX k]at hR
   have Uh:(cf o.name==0)=false:=by simpa using k2
   simp only[dw.fl,eG,Uh,dw.eC,al,zE,zC,zD,zH]
   exact IA (f1.bU hc) (f1.bU ho) (hq.ba f1) hl hR
 ·have k':(o.kind==1)=false:=by simpa using k
  rw[k']
  have hR:=hR h Fr.refl
  rw[zW (fun h=>k h.1),zW k]at hR
  simp only[dw.fu,al,zE,zC,zD,zH]
  exact IA hc ho hq hl hR
theorem O9(hc:h.obj vc=some (aP [I q,I b,ph] 3 25))(ho:h.obj vo=some (aP (ch (o,xa)) 7 36))(hq:cK cX 1 3 h xa o.aN)(hl:o.aN.length<=9000000000000000000)
  (hR:∀h',Fr h h' (fun _=>False)->QR [I (if lH o then 120 else if o.kind=1/\cf o.name=0 then 80 else if (o.aN.length:Int)≠Ft o then 111 else qD q b o)] h'):dw.jH W QR QN QE QP (.ptr vc 0) (.ptr vo 0) h:=by
 have fin:∀c:Bool,c=lH o->dw.e_ W QR QN QE QP (.ptr vc 0) (.ptr vo 0) (B c) h:=fun c rP=>by
  rw[<-rP]at hR
  cases c with
  |true=>simpa[dw.e_] using hR h Fr.refl
  |false=>
   simp only[dw.e_,al,zE,zC,zD,zH]
   exact Pa hc ho hq hl hR
 have f1:=fin _ rfl
 unfold lH at f1
 have e0:(⟨#[]⟩:ByteArray)=ByteArray.empty:=rfl
 revert f1
 cases k1:(o.kind==1)<;>by_cases k2:o.name=ByteArray.empty<;>cases k3:(o.kind==2)<;>cases k4:(o.bit==0)<;>intro f1 <;>
  simp[-dw.e_,bne,k1,k2,k3,k4]at f1<;>simp[-dw.e_,bne,ho,hc,ch,k1,k2,k3,k4,e0]<;>exact f1
end
end
section
open Go.Ab
attribute [-simp] aV aE
section
variable {W:Nat->Prop} {QR QN:VK} {QE:Nat->VK} {QP:AV->AH->Prop} {h:AH} {vc vo:Nat} {q b:Int} {ph xa:AV} {o:eY}
theorem xB{t:TypeId}{c:Bool}{x y:Int}{K:AV->Prop}:ai Pg .andNot t c (U x) (U y) K=K (U (mz x y)):=by
 simp[ai,mz]
theorem O_{kn:Bool}(ho:h.obj vo=some (aP (ch (o,xa)) 7 36))
  (hK:dw.gQ W QR QN QE QP (.ptr vc 0) (.ptr vo 0) (B (!kn||(o.cond&&o.cQ==0)||(!o.cond&&(o.cQ != 0||o.value != 0))||(mz o.cQ (qH b) != 0)||(mz o.value o.cQ != 0))) h):dw.Fw W QR QN QE QP (.ptr vc 0) (.ptr vo 0) (B kn) (U (qH b)) h:=by
 revert hK
 cases kn with
 |false=>intro hK;simp[-dw.gQ]at hK;simp[-dw.gQ];exact hK
 |true=>
  cases k1:o.cond<;>cases k2:(o.cQ==0)<;>cases k3:(o.value==0)<;>cases k4:(mz o.cQ (qH b)==0)<;>cases k5:(mz o.value o.cQ==0)<;>intro hK <;>
   simp[-dw.gQ,bne,k1,k2,k3,k4,k5]at hK<;>simp[-dw.gQ,bne,ho,ch,k1,k2,k3,k4,k5,xB]<;>exact hK
theorem Pb{kn:Bool}(hb:0<=b)(hc:h.obj vc=some (aP [I q,I b,ph] 3 25))(hK:dw.Fw W QR QN QE QP (.ptr vc 0) (.ptr vo 0) (B kn) (U (qH b)) h):dw.DI W QR QN QE QP (.ptr vc 0) (.ptr vo 0) (B kn) h:=by
 unfold qH at hK
 by_cases k:b=64
 ·rw[zX k]at hK
  subst k
  simp[-dw.Fw,hc,ai]
  exact hK
 ·rw[zW k]at hK
  have k':(b==64)=false:=by simpa using k
  simp only[dw.DI,aj,au,hc,ap,zG,zB,zA,aa,ai,hb,zH,dw.P6,k',dw.P7,al,zE,zC,zD]
  exact hK
theorem Mj(hb:0<=b)(hc:h.obj vc=some (aP [I q,I b,ph] 3 25))(ho:h.obj vo=some (aP (ch (o,xa)) 7 36))
  (hK:dw.gQ W QR QN QE QP (.ptr vc 0) (.ptr vo 0) (B (y0 b o)) h):dw.P3 W QR QN QE QP (.ptr vc 0) (.ptr vo 0) h:=by
 have f1:dw.DI W QR QN QE QP (.ptr vc 0) (.ptr vo 0) (B (o.kind==1||o.kind==2||o.kind==3)) h:=Pb hb hc (O_ ho hK)
 revert f1
 cases k1:(o.kind==1)<;>cases k2:(o.kind==2)<;>cases k3:(o.kind==3)<;>intro f1<;>simp[-dw.DI]at f1<;>simp[-dw.DI,ho,ch,k1,k2,k3]<;>exact f1
end
section
variable {M:Nat->Prop} {R:AE->AH->Prop} {h:AH}
theorem Oo{q b:Int}{ph:AV}{y:eY×AV}(hb:0<=b)(hx:cR ph=true/\cJ ph=some [ph])(hq:cK cX 1 3 h y.2 y.1.aN)(hl:y.1.aN.length<=9000000000000000000)
  (hR:∀h',Fr h h' (fun _=>False)->R (.ret (I (pP q b y.1))) h'):aA Pg 68 [.agg [I q,I b,ph],.agg (ch y)] h M R:=by
 apply dw.aM
 unfold dw.KM
 refine dV (by show(true&&(true&&(cR ph&&true)))=true;rw[hx.1];rfl) fun vc h1 f1 DV oc=>?_
 refine dV (kC hq.one.1) fun vo h2 f2 pW oo=>?_
 have bX:=f1.cj f2
 have XJ:=f2.bU oc
 obtain⟨o,xa⟩:=y
 refine Mj hb XJ oo ?_
 have fin:∀c:Bool,c=y0 b o->dw.gQ (fun id=>M id\/h.next<=id) (aJ Pg [.tmp 4] R) (aJ Pg [.tmp 4] R) (fun _ _ _=>False) (fun v h=>R (.bW v) h) (.ptr vc 0) (.ptr vo 0) (B c) h2:=fun c rP=>by
  unfold pP at hR
  rw[<-rP]at hR
  cases c with
  |true=>simpa[dw.gQ] using hR h2 bX
  |false=>
   simp only[dw.gQ,al,zE,zC,zD,zH]
   refine O9 XJ oo (hq.ba bX) hl fun h3 f3=>?_
   simpa[qD] using hR h3 (bX.cj f3)
 exact fin _ rfl
theorem Hk{y:eY×AV}(hq:cR y.2=true)(hR:∀h',Fr h h' (fun _=>False)->R (.ret (I (if y.1.kind=1 then jZ y.1.name else 0))) h'):aA Pg 69 [.agg (ch y)] h M R:=by
 apply Iz.aM
 unfold Iz.n5
 refine dV (kC hq) fun vo h1 f1 DV oo=>?_
 obtain⟨o,xa⟩:=y
 by_cases k:o.kind=1
 ·simp only[zX k]at hR
  have k':(o.kind != 1)=false:=by simp[k]
  simp only[Iz.n4,aj,au,oo,ap,zG,ch,zB,zA,aa,cq,k',Iz.n3,al,zE,zC,zD,zH,Iz.n1]
  refine⟨fun _=>False,fun _ h=>h.elim,Lu fun h2 f2=>?_⟩
  simpa using hR h2 (f1.cj f2)
 ·simp only[zW k]at hR
  have k':(o.kind != 1)=true:=by simp[k]
  have:=hR h1 f1
  simpa[oo,ch,k'] using this
end
end
section
open Go.Ab
attribute [-simp] aV aE
structure rK (h:AH) (x:AV) (l:List (eY×AV)):Prop where
 gC:cK ch 7 36 h x l
 qs:∀y∈l,cK cX 1 3 h y.2 y.1.aN
theorem rK.ba{h h':AH}{x:AV}{l:List (eY×AV)}(a:rK h x l)(hf:Fr h h' fun _=>False):rK h' x l:=⟨a.gC.ba hf,fun y hy=>(a.qs y hy).ba hf⟩
def hU(o:eY):Int:=if o.kind=1 then jZ o.name else 0
def jb(q b:Int):List eY->Nat->Int->Int×Int
 |[],_,_=>(0,0)
 |o::l,i,n=>if pP q b o≠0 then(i,pP q b o) else if 36<n+hU o then(i,116) else jb q b l (i+1) (n+hU o)
def il(q b:Int)(l:List eY):Int×Int:=if q<0\/64<q\/b<0\/64<b then(0,2) else if 4096<l.length then(0,115) else jb q b l 0 0
theorem Jn(n:ByteArray):0<=jZ n/\jZ n<=1:=by
 unfold jZ
 split
 ·rename_i x hx
  have h1:=List.mem_of_find?_eq_some hx
  have key:∀x∈mv,0<=x.2.2/\x.2.2<=1:=by decide +kernel
  exact key x h1
 ·omega
theorem B7(o:eY):0<=hU o/\hU o<=1:=by
 unfold hU
 split
 ·exact Jn _
 ·omega
section
variable {W:Nat->Prop} {QR QN:VK} {QE:Nat->VK} {QP:AV->AH->Prop} {h:AH} {vc:Nat} {q b:Int} {x:AV} {l:List (eY×AV)}
abbrev CT(r:Int×Int):List AV:=[I r.1,I r.2]
theorem Pk(hW:∀id,h.next<=id->W id)(hb:0<=b)(hc:h.obj vc=some (aP [I q,I b,x] 3 25))(hx:rK h x l)(hl:l.length<=4096)(BO:∀y∈l,y.1.aN.length<=9000000000000000000)
  (hR:∀h',Fr h h' (fun _=>False)->QR (CT (jb q b (l.map (·.1)) 0 0)) h'):mV.bV W QR QN QE QP (.ptr vc 0) (I 0) h:=by
 unfold mV.bV
 simp only[aj,au,hc,ap,zG,zB,zA,aa,hx.gC.len.1,hx.gC.len.2,zH]
 unfold mV.bP
 refine cy (ι:=Nat×Int) (fun z v h'=>v=[.ptr vc 0,I z.2,x,I l.length,I z.1]/\z.1<=l.length/\Fr h h' (fun _=>False)/\0<=z.2/\z.2<=36/\jb q b ((l.drop z.1).map (·.1)) z.1 z.2=jb q b (l.map (·.1)) 0 0) (fun z=>l.length-z.1) (0,0) ⟨rfl,by simp,Fr.refl,by simp,by simp,by simp⟩ ?_
 rintro K ⟨i,n⟩ v h' ⟨rfl,hi,hf,wE,iO,he⟩ hK
 simp only at hi wE iO he hK
 simp only[mV.cG,zN,zO]
 by_cases aL:i<l.length
 ·have fH:(i:Int)<l.length:=by omega
  have g1:l[i]?=some l[i]:=zJ aL
  have w1:IntKind.i64.wrap ((i:Int)+1)=((i+1:Nat):Int):=by rw[aR (by omega) (by omega)];simp
  have HU:=hx.qs _ (List.getElem_mem aL)
  have uT:=BO _ (List.getElem_mem aL)
  rw[List.drop_eq_getElem_cons aL,List.map_cons]at he
  simp only[jb]at he
  generalize l[i]=y at *
  simp only[mV.bH,bc,zL fH,mV.a_,al,zD,zF,zC,zI]
  unfold mV.bj
  refine gD (hx.gC.ba hf) gX (kC HU.one.1) g1 rfl rfl (fun id hid=>hW id (zR hf.next hid)) fun vn h1 f1 nO ov=>?_
  have Ig:=hf.cj f1
  unfold mV.aS
  refine dW (Ig.bU hc) rfl fun _=>?_
  refine dW ov rfl fun _=>?_
  refine⟨fun _=>False,fun _ h=>h.elim,Oo hb hx.gC.one (HU.ba Ig) uT fun h2 f2=>?_⟩
  have bX:=Ig.cj f2
  by_cases k:pP q b y.1=0
  ·rw[zW (by simpa using k)]at he
   have k':(pP q b y.1 != 0)=false:=by simp[k]
   simp only[mV.n9,cq,k',mV.n8,al,zE,zC,zD,zH]
   unfold mV.n6
   refine dW (f2.bU ov) rfl fun _=>?_
   refine⟨fun _=>False,fun _ h=>h.elim,Hk HU.one.1 fun h3 f3=>?_⟩
   have eO:=bX.cj f3
   have hh:=B7 y.1
   have wn:IntKind.i64.wrap (n+hU y.1)=n+hU y.1:=aR (by omega) (by omega)
   show ai _ _ _ _ (I n) (I (hU y.1)) _
   simp only[aZ,wn,mV.n5,ft]
   by_cases k2:36<n+hU y.1
   ·rw[zX k2]at he
    have:=hR h3 eO
    rw[<-he]at this
    simp only[gt_iff_lt,zL k2,mV.n4,al,zD,zF,zC,zI]
    exact this
   ·rw[zW k2]at he
    simp only[gt_iff_lt,zK k2,mV.n4,al,zD,zE,zC,zH,mV.n2,aZ,w1]
    exact hK (i+1,n+hU y.1) _ _ (by simp only;omega) ⟨rfl,by simp only;omega,eO,by simp only;omega,by simp only;omega,he⟩
  ·rw[zX k]at he
   have k':(pP q b y.1 != 0)=true:=by simp[k]
   have:=hR h2 bX
   rw[<-he]at this
   simp only[mV.n9,cq,k',mV.n8,al,zD,zF,zC,zI]
   exact this
 ·have eV:¬(i:Int)<l.length:=by omega
  rw[List.drop_of_length_le (by omega)]at he
  have:=hR h' hf
  rw[<-he]at this
  simpa[eV,jb] using this
end
section
variable {M:Nat->Prop} {R:AE->AH->Prop} {h:AH}
theorem OI{q b:Int}{x:AV}{l:List (eY×AV)}(hx:rK h x l)(BO:∀y∈l,y.1.aN.length<=9000000000000000000)
  (hR:∀h',Fr h h' (fun _=>False)->R (.ret (.dD (CT (il q b (l.map (·.1)))))) h'):aA Pg 25 [.agg [I q,I b,x]] h M R:=by
 apply mV.aM
 unfold mV.cU
 refine dV (by show(true&&(true&&(cR x&&true)))=true;rw[hx.gC.one.1];rfl) fun vc h1 f1 DV oc=>?_
 unfold il at hR
 by_cases k1:q<0
 ·have:=hR h1 f1
  rw[zX (.inl k1)]at this
  simpa[oc,k1] using this
 by_cases k2:64<q
 ·have:=hR h1 f1
  rw[zX (.inr (.inl k2))]at this
  simpa[oc,k1,k2] using this
 by_cases k3:b<0
 ·have:=hR h1 f1
  rw[zX (.inr (.inr (.inl k3)))]at this
  simpa[oc,k1,k2,k3] using this
 by_cases k4:64<b
 ·have:=hR h1 f1
  rw[zX (.inr (.inr (.inr k4)))]at this
  simpa[oc,k1,k2,k3,k4] using this
 rw[zW (by omega),zZ]at hR
 simp[-mV.cp,oc,k1,k2,k3,k4]
 unfold mV.cp
 simp only[aj,au,oc,ap,zG,zB,zA,aa,hx.gC.len.1,hx.gC.len.2,zH,ft,gt_iff_lt]
 by_cases k5:4096<l.length
 ·have:=hR h1 f1
  rw[zX k5]at this
  have FD:(4096:Int)<l.length:=by omega
  simpa[FD] using this
 ·rw[zW k5]at hR
  have FD:¬(4096:Int)<l.length:=by omega
  simp only[zK FD,mV.ck,al,zE,zC,zD,zH,mV.bR]
  exact Pk (fun id hid=>.inr (zR f1.next hid)) (by omega) oc (hx.ba f1) (by omega) BO fun h2 f2=>hR h2 (f1.cj f2)
end
end
section
open Go.Ab
attribute [-simp] aV aE
def pe(x n:Int):Bool:=decide (n<64)&&(x.fdiv (2^(min (IntKind.u64.wrap n).toNat IntKind.u64.bits)) != 0)
def uH(b:Int)(o:eY):Bool:=(decide (o.kind<1)||decide (3<o.kind))||(!o.cond&&(o.cQ != 0||o.value != 0))||(o.cond&&(o.cQ==0||pe o.cQ b||mz o.value o.cQ != 0))||lH o
def pO(q b:Int)(o:eY):Int:=if uH b o then 120 else if o.kind=1/\cf o.name=0 then 80 else if (o.aN.length:Int)≠Ft o then 111 else qD q b o
section
variable {M:Nat->Prop} {R:AE->AH->Prop} {h:AH}
theorem L8{x n:Int}(hn:0<=n)(hR:R (.ret (B (pe x n))) h):aA Pg 96 [U x,I n] h M R:=by
 apply Yz.aM
 unfold pe at hR
 have hw:0<=IntKind.u64.wrap n:=by
  rw[IntKind.wrap_u64];omega
 by_cases k:n<64
 ·rw[zL k]at hR
  simp[ai,k,hw]
  simpa using hR
 ·rw[zK k]at hR
  simpa[ai,k] using hR
end
section
variable {W:Nat->Prop} {QR QN:VK} {QE:Nat->VK} {QP:AV->AH->Prop} {h:AH} {vo:Nat} {q b:Int} {xa:AV} {o:eY}
theorem O4(ho:h.obj vo=some (aP (ch (o,xa)) 7 36))(hR:QR [I (if lH o then 120 else 0)] h):mr.aS W QR QN QE QP (.ptr vo 0) h:=by
 have fin:∀c:Bool,c=lH o->mr.n3 W QR QN QE QP (B c) h:=fun c rP=>by
  rw[<-rP]at hR
  cases c<;>simpa[mr.n3] using hR
 have f1:=fin _ rfl
 unfold lH at f1
 have e0:(⟨#[]⟩:ByteArray)=ByteArray.empty:=rfl
 revert f1
 cases k1:(o.kind==1)<;>by_cases k2:o.name=ByteArray.empty<;>cases k3:(o.kind==2)<;>cases k4:(o.bit==0)<;>intro f1 <;>
  simp[-mr.n3,bne,k1,k2,k3,k4]at f1<;>simp[-mr.n3,bne,ho,ch,k1,k2,k3,k4,e0]<;>exact f1
theorem O5(hb:0<=b)(ho:h.obj vo=some (aP (ch (o,xa)) 7 36))(hR:∀h',Fr h h' (fun _=>False)->QR [I (if (!o.cond&&(o.cQ != 0||o.value != 0))||(o.cond&&(o.cQ==0||pe o.cQ b||mz o.value o.cQ != 0))||lH o then 120 else 0)] h') :
  mr.cC W QR QN QE QP (I b) (.ptr vo 0) h:=by
 have fin:∀h1,Fr h h1 (fun _=>False)->∀c:Bool,(!o.cond&&(o.cQ != 0||o.value != 0))=false->c=(o.cond&&(o.cQ==0||pe o.cQ b||mz o.value o.cQ != 0))->mr.a_ W QR QN QE QP (.ptr vo 0) (B c) h1:=fun h1 f1 c h0 rP=>by
  rw[h0,<-rP]at hR
  cases c with
  |true=>simpa[mr.a_] using hR h1 f1
  |false=>
   simp only[mr.a_,al,zE,zC,zD,zH]
   exact O4 (f1.bU ho) (by simpa using hR h1 f1)
 cases k1:o.cond with
 |false=>
  have F_:=hR h Fr.refl
  rw[k1]at F_ fin
  have fin:=fin h Fr.refl false
  revert F_ fin
  cases k2:(o.cQ==0)<;>cases k3:(o.value==0)<;>intro F_ fin<;>simp[-mr.a_,bne,k2,k3]at F_ fin<;>simp[-mr.a_,bne,ho,ch,k1,k2,k3]<;>first |exact fin |exact F_
 |true=>
  have F_:=hR h Fr.refl
  rw[k1]at F_ fin
  cases k2:(o.cQ==0) with
  |true=>
   have fin:=fin h Fr.refl true
   simp[-mr.a_,k2]at fin
   simp[-mr.a_,ho,ch,k1,k2]
   exact fin
  |false=>
   simp[-mr.a_,-mr.bR,ho,ch,k1,k2]
   refine⟨fun _=>False,fun _ h=>h.elim,L8 hb ?_⟩
   have fin:=fin h Fr.refl
   cases k3:pe o.cQ b with
   |true=>
    have fin:=fin true
    simp[-mr.a_,k2,k3]at fin
    simp[-mr.a_,ho,ch,k1,k2]
    exact fin
   |false=>
    cases k4:(mz o.value o.cQ==0) with
    |true=>
     have fin:=fin false
     simp[-mr.a_,bne,k2,k3,k4]at fin
     simp[-mr.a_,bne,ho,ch,k1,k2,xB,k4]
     exact fin
    |false=>
     have fin:=fin true
     simp[-mr.a_,bne,k2,k3,k4]at fin
     simp[-mr.a_,bne,ho,ch,k1,k2,xB,k4]
     exact fin
end
section
variable {M:Nat->Prop} {R:AE->AH->Prop} {h:AH}
theorem MW{b:Int}{y:eY×AV}(hb:0<=b)(hq:cR y.2=true)(hR:∀h',Fr h h' (fun _=>False)->R (.ret (I (if uH b y.1 then 120 else 0))) h'):aA Pg 78 [.agg (ch y),I b] h M R:=by
 apply mr.aM
 unfold mr.dZ
 refine dV (kC hq) fun vo h1 f1 DV oo=>?_
 obtain⟨o,xa⟩:=y
 unfold uH at hR
 have QM:=hR h1 f1
 by_cases k1:o.kind<1
 ·simp[k1]at QM
  simpa[oo,ch,k1] using QM
 ·by_cases k2:3<o.kind
  ·simp[k2]at QM
   simpa[oo,ch,k1,k2] using QM
  ·simp[-mr.cC,oo,ch,k1,k2]
   refine O5 hb oo fun h2 f2=>?_
   have:=hR h2 (f1.cj f2)
   simpa[k1,k2] using this
end
end
section
open Go.Ab
attribute [-simp] aV aE
theorem KS{l:List Int}{i k:Nat}(hk:k<i)(hi:i<l.length)(h:l[i]=l[k]'(by omega)):fe l[i] (l.take i)=true:=by
 unfold fe
 cases hx:gy l[i] (l.take i) 0 with
 |some _=>rfl
 |none=>
  have:=DS hx
  refine absurd ?_ this
  rw[h]
  exact List.mem_iff_getElem.2 ⟨k,by rw[yA];omega,by rw[List.getElem_take]⟩
theorem R0{l:List Int}{i:Nat}(hi:i<l.length)(h:∀k (hk:k<i),¬l[i]=l[k]'(by omega)):fe l[i] (l.take i)=false:=by
 unfold fe
 cases hx:gy l[i] (l.take i) 0 with
 |none=>rfl
 |some j=>
  have:=(xM hx).2
  obtain⟨k,hk,he⟩:=List.mem_iff_getElem.1 this
  rw[yA]at hk
  rw[List.getElem_take]at he
  exact absurd he.symm (h k (by omega))
section
variable {W:Nat->Prop} {QR QN:VK} {QE:Nat->VK} {QP:AV->AH->Prop} {h:AH} {vo:Nat} {q b:Int} {xa:AV} {o:eY}
theorem SM(ho:h.obj vo=some (aP (ch (o,xa)) 7 36))(hq:cK cX 1 3 h xa o.aN)(hl:o.aN.length<=9000000000000000000)
  (hR:QR [I (if sZ o.aN then 113 else 0)] h):eA.bP W QR QN QE QP (.ptr vo 0) (I o.aN.length) h:=by
 unfold eA.bP eA.bH
 refine cy (ι:=Nat) (fun i v h'=>v=[.ptr vo 0,I o.aN.length,I i]/\i<=o.aN.length/\h'=h/\∀j (hj:j<o.aN.length),j<i->fe o.aN[j] (o.aN.take j)=false) (fun i=>o.aN.length-i) 0 ⟨rfl,by omega,rfl,fun j _ h=>by omega⟩ ?_
 rintro K i v h' ⟨rfl,hi,rfl,hb⟩ hK
 simp only[eA.cG,zN,zO]
 by_cases aL:i<o.aN.length
 ·have fH:(i:Int)<o.aN.length:=by omega
  simp only[eA.a_,bc,zL fH,eA.bj,al,zD,zF,zC,zI,eA.aS]
  unfold eA.n9
  refine cy (ι:=Nat) (fun k v h2=>v=[.ptr vo 0,I o.aN.length,I i,I k]/\k<=i/\h2=h'/\∀j (hj:j<k) (_:j<i),¬o.aN[i]=o.aN[j]'(by omega)) (fun k=>i-k) 0 ⟨rfl,by omega,rfl,fun j h=>by omega⟩ ?_
  rintro K2 k v h2 ⟨rfl,hk,rfl,hn⟩ hK2
  simp only[eA.iX,zN,zO]
  by_cases rh:k<i
  ·have NN:(k:Int)<i:=by omega
   have g1:o.aN[i]?=some o.aN[i]:=zJ aL
   have g2:o.aN[k]?=some (o.aN[k]'(by omega)):=zJ (by omega)
   have w1:IntKind.i64.wrap ((k:Int)+1)=((k+1:Nat):Int):=by rw[aR (by omega) (by omega)];simp
   simp only[eA.n8,bc,zL NN,eA.n7,al,zD,zF,zC,zI,eA.n6,aj,au,ho,ap,zG,ch,zB,zA,aa]
   refine ja hq gJ g1 rfl fun _=>?_
   refine ja hq gJ g2 rfl fun _=>?_
   rw[eG]
   by_cases e:o.aN[i]=o.aN[k]
   ·rw[LW aL (KS rh aL e)]at hR
    simp only[beq_iff_eq.2 e,eA.n5,al,zD,zF,zC,zI]
    exact hR
   ·simp only[beq_eq_false_iff_ne.2 e,eA.n5,al,zE,zD,zC,zH,eA.n3,aZ,w1]
    refine hK2 (k+1) _ _ (by omega) ⟨rfl,by omega,rfl,fun j hj mq=>?_⟩
    rcases Nat.lt_succ_iff_lt_or_eq.1 hj with h1 |h1
    ·exact hn j h1 mq
    ·subst h1;exact e
  ·have NN:¬(k:Int)<i:=by omega
   have w1:IntKind.i64.wrap ((i:Int)+1)=((i+1:Nat):Int):=by rw[aR (by omega) (by omega)];simp
   have hm:=R0 aL (fun j hj=>hn j (by omega) hj)
   simp only[eA.n8,bc,zK NN,eA.n7,al,zD,zE,zC,zH,zV,eA.n2,aZ,w1,zN,zO]
   refine hK (i+1) _ _ (by omega) ⟨rfl,by omega,rfl,fun j hj mq=>?_⟩
   rcases Nat.lt_succ_iff_lt_or_eq.1 mq with h1 |h1
   ·exact hb j hj h1
   ·subst h1;exact hm
 ·have eV:¬(i:Int)<o.aN.length:=by omega
  rw[LV fun j hj=>hb j hj (by omega)]at hR
  simpa[eV] using hR
theorem SN(ho:h.obj vo=some (aP (ch (o,xa)) 7 36))(hq:cK cX 1 3 h xa o.aN)(hl:o.aN.length<=9000000000000000000)
  (hR:QR [I (if o.kind=2/\(o.bit<0\/b<=o.bit) then 112 else if sZ o.aN then 113 else 0)] h):eA.cT W QR QN QE QP (I b) (.ptr vo 0) (I o.aN.length) h:=by
 have fin:∀c:Bool,c=decide (o.kind=2/\(o.bit<0\/b<=o.bit))->eA.bR W QR QN QE QP (.ptr vo 0) (I o.aN.length) (B c) h:=fun c rP=>by
  cases c with
  |true=>
   rw[zX (of_decide_eq_true rP.symm)]at hR
   simpa[eA.bR] using hR
  |false=>
   rw[zW (of_decide_eq_false rP.symm)]at hR
   simp only[eA.bR,al,zE,zC,zD,zH]
   exact SM ho hq hl hR
 have f1:=fin _ rfl
 by_cases k1:o.kind=2
 ·by_cases k2:o.bit<0
  ·simp[-eA.bR,k1,k2]at f1
   simp[-eA.bR,ho,ch,k1,k2]
   exact f1
  ·by_cases k3:b<=o.bit
   ·simp[-eA.bR,k1,k2,k3]at f1
    simp[-eA.bR,ho,ch,k1,k2,k3]
    exact f1
   ·simp[-eA.bR,k1,k2,k3]at f1
    simp[-eA.bR,ho,ch,k1,k2,k3]
    exact f1
 ·simp[-eA.bR,k1]at f1
  have eI:(o.kind==2)=false:=by simpa using k1
  simp[-eA.bR,ho,ch,eI]
  exact f1
theorem SL(ho:h.obj vo=some (aP (ch (o,xa)) 7 36))(hq:cK cX 1 3 h xa o.aN)(hl:o.aN.length<=9000000000000000000)
  (hR:QR [I (qD q b o)] h):eA.dS W QR QN QE QP (I q) (I b) (.ptr vo 0) (I o.aN.length) h:=by
 unfold qD at hR
 unfold eA.dS eA.dn
 refine cy (ι:=Nat) (fun i v h'=>v=[I q,I b,.ptr vo 0,I o.aN.length,I i]/\i<=o.aN.length/\h'=h/\∀j (hj:j<o.aN.length),j<i->¬(o.aN[j]<0\/q<=o.aN[j])) (fun i=>o.aN.length-i) 0 ⟨rfl,by omega,rfl,fun j _ h=>by omega⟩ ?_
 rintro K i v h' ⟨rfl,hi,rfl,hb⟩ hK
 simp only[eA.pL,zN,zO]
 by_cases aL:i<o.aN.length
 ·have fH:(i:Int)<o.aN.length:=by omega
  have g1:o.aN[i]?=some o.aN[i]:=zJ aL
  have w1:IntKind.i64.wrap ((i:Int)+1)=((i+1:Nat):Int):=by rw[aR (by omega) (by omega)];simp
  have key:=fun hh=>KG (q:=q) (l:=o.aN) aL hh
  have sQ:¬(o.aN[i]<0\/q<=o.aN[i])->∀j (hj:j<o.aN.length),j<i+1->¬(o.aN[j]<0\/q<=o.aN[j]):=fun h0 j hj mq=>by
   rcases Nat.lt_succ_iff_lt_or_eq.1 mq with h1 |h1
   ·exact hb j hj h1
   ·subst h1;exact h0
  generalize o.aN[i]=y at *
  simp only[eA.cU,bc,zL fH,eA.c9,al,zD,zF,zC,zI,eA.cB,aj,au,ho,ap,zG,ch,zB,zA,aa]
  refine ja hq gJ g1 rfl fun _=>?_
  by_cases k1:y<0
  ·rw[key (.inl k1)]at hR
   simp[eA.cC,eA.cF,eA.cS,k1]
   simpa using hR
  ·simp only[bc,zK k1,eA.cC,cA,zT,zE,zD,zC,zI,aj,au,ho,ap,zG,ch,zB,zA,aa]
   refine ja hq gJ g1 rfl fun _=>?_
   by_cases k2:q<=y
   ·rw[key (.inr k2)]at hR
    simp[eA.cF,eA.cS,k2]
    simpa using hR
   ·simp[eA.cF,eA.cS,k2,w1]
    exact hK (i+1) _ _ (by omega) ⟨rfl,by omega,rfl,sQ (by omega)⟩
 ·have eV:¬(i:Int)<o.aN.length:=by omega
  rw[KF fun j hj=>hb j hj (by omega)]at hR
  simp[-eA.cT,eV]
  exact SN ho hq hl (by simpa using hR)
theorem ID(ho:h.obj vo=some (aP (ch (o,xa)) 7 36))(hq:cK cX 1 3 h xa o.aN)(hl:o.aN.length<=9000000000000000000){n:Int}
  (hR:QR [I (if (o.aN.length:Int)≠n then 111 else qD q b o)] h):eA.fl W QR QN QE QP (I q) (I b) (.ptr vo 0) (I n) h:=by
 unfold eA.fl
 simp only[aj,au,ho,ap,zG,ch,zB,zA,aa,hq.len.1,hq.len.2,zH,cq,qt]
 by_cases k:(o.aN.length:Int)=n
 ·rw[zW (by simpa using k)]at hR
  rw[zL k]
  simp only[eA.eC,al,zS,zE,zC,zD,zH]
  rw[<-k]
  exact SL ho hq hl hR
 ·rw[zX k]at hR
  rw[zK k]
  simpa[eA.eC] using hR
theorem Pf(ho:h.obj vo=some (aP (ch (o,xa)) 7 36))(hq:cK cX 1 3 h xa o.aN)(hl:o.aN.length<=9000000000000000000)
  (hR:QR [I (if o.kind=1/\cf o.name=0 then 80 else if (o.aN.length:Int)≠Ft o then 111 else qD q b o)] h):eA.e_ W QR QN QE QP (I q) (I b) (.ptr vo 0) h:=by
 unfold eA.e_ eA.fQ
 simp only[aj,au,ho,ap,zG,ch,zB,zA,aa,eG]
 unfold Ft at hR
 by_cases k:o.kind=1
 ·have k':(o.kind==1)=true:=by simpa using k
  rw[k']
  simp only[eA.fk,al,zF,zC,zD,zI,eA.fL,aj,au,ho,ap,zG,ch,zB,zA,aa]
  refine⟨fun _=>False,fun _ h=>h.elim,oq ?_⟩
  by_cases k2:cf o.name=0
  ·rw[zX ⟨k,k2⟩]at hR
   simpa[eA.fD,eA.fu,k2] using hR
  ·rw[zW (fun h=>k2 h.2),zX k]at hR
   have Uh:(cf o.name==0)=false:=by simpa using k2
   simp only[eA.fD,eG,Uh,eA.fu,al,zE,zC,zD,zH]
   exact ID ho hq hl hR
 ·have k':(o.kind==1)=false:=by simpa using k
  rw[k']
  rw[zW (fun h=>k h.1),zW k]at hR
  simp only[eA.fk,al,zE,zC,zD,zH]
  exact ID ho hq hl hR
end
section
variable {M:Nat->Prop} {R:AE->AH->Prop} {h:AH}
theorem Hh{q b:Int}{y:eY×AV}(hb:0<=b)(hq:cK cX 1 3 h y.2 y.1.aN)(hl:y.1.aN.length<=9000000000000000000)
  (hR:∀h',Fr h h' (fun _=>False)->R (.ret (I (pO q b y.1))) h'):aA Pg 47 [.agg (ch y),I q,I b] h M R:=by
 apply eA.aM
 unfold eA.gI
 refine dV (kC hq.one.1) fun vo h1 f1 DV oo=>?_
 unfold eA.jd
 refine dW oo rfl fun _=>?_
 refine⟨fun _=>False,fun _ h=>h.elim,MW hb hq.one.1 fun h2 f2=>?_⟩
 have bX:=f1.cj f2
 obtain⟨o,xa⟩:=y
 have hR:=hR h2 bX
 unfold pO at hR
 cases k:uH b o with
 |true=>
  rw[k]at hR
  simp at hR
  simp[eA.fC,eA.fZ]
  exact hR
 |false=>
  rw[k]at hR
  simp only[zE,if_false]at hR
  simp only[zE,if_false,eA.fC,cq,bne_self_eq_false,eA.fZ,al,zC,zD,zH]
  exact Pf (f2.bU oo) (hq.ba bX) hl (by simpa using hR)
theorem CV{y:eY×AV}(hq:cR y.2=true)(hR:∀h',Fr h h' (fun _=>False)->R (.ret (I (hU y.1))) h'):aA Pg 48 [.agg (ch y)] h M R:=by
 apply IC.aM
 unfold IC.n5
 refine dV (kC hq) fun vo h1 f1 DV oo=>?_
 obtain⟨o,xa⟩:=y
 unfold hU at hR
 by_cases k:o.kind=1
 ·simp only[zX k]at hR
  have k':(o.kind==1)=true:=by simp[k]
  simp only[IC.n4,aj,au,oo,ap,zG,ch,zB,zA,aa,eG,k',IC.n3,al,zF,zC,zD,zI,IC.n2]
  refine⟨fun _=>False,fun _ h=>h.elim,E9 ?_⟩
  simpa using hR h1 f1
 ·simp only[zW k]at hR
  have k':(o.kind==1)=false:=by simp[k]
  have:=hR h1 f1
  simpa[oo,ch,k'] using this
end
end
section
open Go.Ab
attribute [-simp] aV aE
def l6(q b:Int):List eY->Nat->Int->Int×Int
 |[],_,_=>(0,0)
 |o::l,i,n=>if pO q b o≠0 then(i,pO q b o) else if 36<n+hU o then(i,116) else l6 q b l (i+1) (n+hU o)
def Cv(q b:Int)(l:List eY):Int×Int:=if q<0\/64<q\/b<0\/64<b then(0,2) else if 4096<l.length then(0,115) else l6 q b l 0 0
section
variable {W:Nat->Prop} {QR QN:VK} {QE:Nat->VK} {QP:AV->AH->Prop} {h:AH} {vc:Nat} {q b:Int} {x:AV} {l:List (eY×AV)}
theorem Pr(hb:0<=b)(hc:h.obj vc=some (aP [I q,I b,x] 3 25))(hx:rK h x l)(hl:l.length<=4096)(BO:∀y∈l,y.1.aN.length<=9000000000000000000)
  (hR:∀h',Fr h h' (fun _=>False)->QR (CT (l6 q b (l.map (·.1)) 0 0)) h'):ny.bV W QR QN QE QP (.ptr vc 0) h:=by
 unfold ny.bV ny.bP ny.bH
 refine cy (ι:=Nat×Int) (fun z v h'=>v=[.ptr vc 0,I z.2,I z.1]/\z.1<=l.length/\Fr h h' (fun _=>False)/\0<=z.2/\z.2<=36/\l6 q b ((l.drop z.1).map (·.1)) z.1 z.2=l6 q b (l.map (·.1)) 0 0) (fun z=>l.length-z.1) (0,0) ⟨rfl,by simp,Fr.refl,by simp,by simp,by simp⟩ ?_
 rintro K ⟨i,n⟩ v h' ⟨rfl,hi,hf,wE,iO,he⟩ hK
 simp only at hi wE iO he hK
 simp only[ny.cG,zN,zO]
 have uW:=hf.bU hc
 simp only[ny.a_,aj,au,uW,ap,zG,zB,zA,aa,hx.gC.len.1,hx.gC.len.2,zH]
 by_cases aL:i<l.length
 ·have fH:(i:Int)<l.length:=by omega
  have g1:l[i]?=some l[i]:=zJ aL
  have w1:IntKind.i64.wrap ((i:Int)+1)=((i+1:Nat):Int):=by rw[aR (by omega) (by omega)];simp
  have HU:=hx.qs _ (List.getElem_mem aL)
  have uT:=BO _ (List.getElem_mem aL)
  rw[List.drop_eq_getElem_cons aL,List.map_cons]at he
  simp only[l6]at he
  generalize l[i]=y at *
  simp only[bc,zL fH,ny.bj,al,zD,zF,zC,zI,ny.aS,aj,au,uW,ap,zG,zB,zA,aa]
  refine jG (hx.gC.ba hf) gX g1 fun _=>?_
  refine⟨fun _=>False,fun _ h=>h.elim,Hh hb (HU.ba hf) uT fun h2 f2=>?_⟩
  have bX:=hf.cj f2
  by_cases k:pO q b y.1=0
  ·rw[zW (by simpa using k)]at he
   have k':(pO q b y.1 != 0)=false:=by simp[k]
   simp only[ny.n9,cq,k',ny.n8,al,zE,zC,zD,zH,ny.n6,aj,au,f2.bU uW,ap,zG,zB,zA,aa]
   refine jG (hx.gC.ba bX) gX g1 fun _=>?_
   refine⟨fun _=>False,fun _ h=>h.elim,CV HU.one.1 fun h3 f3=>?_⟩
   have eO:=bX.cj f3
   have hh:=B7 y.1
   have wn:IntKind.i64.wrap (n+hU y.1)=n+hU y.1:=aR (by omega) (by omega)
   simp only[aZ,wn,ny.n5,ft]
   by_cases k2:36<n+hU y.1
   ·rw[zX k2]at he
    have:=hR h3 eO
    rw[<-he]at this
    simp only[gt_iff_lt,zL k2,ny.n4,al,zD,zF,zC,zI]
    exact this
   ·rw[zW k2]at he
    simp only[gt_iff_lt,zK k2,ny.n4,al,zD,zE,zC,zH,ny.n2,aZ,w1]
    exact hK (i+1,n+hU y.1) _ _ (by simp only;omega) ⟨rfl,by simp only;omega,eO,by simp only;omega,by simp only;omega,he⟩
  ·rw[zX k]at he
   have k':(pO q b y.1 != 0)=true:=by simp[k]
   have:=hR h2 bX
   rw[<-he]at this
   simp only[ny.n9,cq,k',ny.n8,al,zD,zF,zC,zI]
   exact this
 ·have eV:¬(i:Int)<l.length:=by omega
  rw[List.drop_of_length_le (by omega)]at he
  have:=hR h' hf
  rw[<-he]at this
  simpa[eV,l6] using this
end
section
variable {M:Nat->Prop} {R:AE->AH->Prop} {h:AH}
theorem Hi{q b:Int}{x:AV}{l:List (eY×AV)}(hx:rK h x l)(BO:∀y∈l,y.1.aN.length<=9000000000000000000)
  (hR:∀h',Fr h h' (fun _=>False)->R (.ret (.dD (CT (Cv q b (l.map (·.1)))))) h'):aA Pg 18 [.agg [I q,I b,x]] h M R:=by
 apply ny.aM
 unfold ny.c9
 refine dV (by show(true&&(true&&(cR x&&true)))=true;rw[hx.gC.one.1];rfl) fun vc h1 f1 DV oc=>?_
 unfold Cv at hR
 by_cases k1:q<0
 ·have:=hR h1 f1
  rw[zX (.inl k1)]at this
  simpa[oc,k1] using this
 by_cases k2:64<q
 ·have:=hR h1 f1
  rw[zX (.inr (.inl k2))]at this
  simpa[oc,k1,k2] using this
 by_cases k3:b<0
 ·have:=hR h1 f1
  rw[zX (.inr (.inr (.inl k3)))]at this
  simpa[oc,k1,k2,k3] using this
 by_cases k4:64<b
 ·have:=hR h1 f1
  rw[zX (.inr (.inr (.inr k4)))]at this
  simpa[oc,k1,k2,k3,k4] using this
 rw[zW (by omega),zZ]at hR
 simp[-ny.ck,oc,k1,k2,k3,k4]
 unfold ny.ck
 simp only[aj,au,oc,ap,zG,zB,zA,aa,hx.gC.len.1,hx.gC.len.2,zH,ft,gt_iff_lt]
 by_cases k5:4096<l.length
 ·have:=hR h1 f1
  rw[zX k5]at this
  have FD:(4096:Int)<l.length:=by omega
  simpa[FD] using this
 ·rw[zW k5]at hR
  have FD:¬(4096:Int)<l.length:=by omega
  simp only[zK FD,ny.b5,al,zE,zC,zD,zH]
  exact Pr (by omega) oc (hx.ba f1) (by omega) BO fun h2 f2=>hR h2 (f1.cj f2)
end
def Ix(o:eY):Prop:=0<=o.cQ/\o.cQ<18446744073709551616/\0<=o.value/\o.value<18446744073709551616
def ub(a b:Nat):Nat:=(BitVec.ofNat 64 a &&& ~~~ BitVec.ofNat 64 b).toNat
theorem GV(a b:Nat):mz a b=(ub a b:Nat):=by
 unfold mz ub
 have e:IntKind.u64.bits=64:=rfl
 rw[e]
 have:=(BitVec.ofNat 64 a &&& ~~~ BitVec.ofNat 64 b).isLt
 rw[IntWalk.u64_in _ (by simp only[BitVec.ofInt_natCast];omega)]
 simp only[BitVec.ofInt_natCast]
theorem yv{a b i:Nat}:(ub a b).testBit i=(decide (i<64)&&a.testBit i&&!b.testBit i):=by
 unfold ub
 rw[BitVec.testBit_toNat,BitVec.getLsbD_and,BitVec.getLsbD_not,BitVec.getLsbD_ofNat,BitVec.getLsbD_ofNat]
 by_cases h:i<64<;>simp[h]
theorem Me{m b:Nat}(hm:m<2^64):(ub m (2^b-1)=0)↔m/2^b=0:=by
 constructor
 ·intro h
  apply Nat.eq_of_testBit_eq
  intro i
  rw[Nat.zero_testBit,Nat.testBit_div_two_pow]
  cases hb:m.testBit (i+b) with
  |false=>rfl
  |true=>
   have aL:i+b<64:=by
    rcases Nat.lt_or_ge (i+b) 64 with h |h
    ·exact h
    ·rw[Nat.testBit_lt_two_pow (Nat.lt_of_lt_of_le hm (Nat.pow_le_pow_right (by decide) h))]at hb;cases hb
   have:=yv (a:=m) (b:=2^b-1) (i:=i+b)
   rw[h,Nat.zero_testBit,hb,zL aL,Nat.testBit_two_pow_sub_one,zK (by omega)]at this
   cases this
 ·intro h
  apply Nat.eq_of_testBit_eq
  intro i
  rw[Nat.zero_testBit,yv,Nat.testBit_two_pow_sub_one]
  by_cases hi:i<b
  ·rw[zL hi];simp
  ·have:m.testBit i=(m/2^b).testBit (i-b):=by rw[Nat.testBit_div_two_pow,Nat.sub_add_cancel (by omega)]
   rw[this,h,Nat.zero_testBit];simp
theorem Ei{b:Nat}(hb:b<=64):qH b=((2^b-1:Nat):Int):=by
 unfold qH
 by_cases h:(b:Int)=64
 ·rw[zX h]
  have:b=64:=by omega
  subst this
  rfl
 ·rw[zW h]
  have aL:b<64:=by omega
  unfold Q3
  have e:IntKind.u64.bits=64:=rfl
  have hp:2^b<=2^63:=Nat.pow_le_pow_right (by decide) (by omega)
  have h1:1<=2^b:=Nat.one_le_two_pow
  rw[e,zY,Nat.min_eq_left (by omega),Int.one_mul]
  have e2:((2:Int)^b)=((2^b:Nat):Int):=by simp
  have w1:IntKind.u64.wrap ((2^b:Nat):Int)=((2^b:Nat):Int):=IntWalk.u64_in _ (by omega)
  rw[e2,w1,IntWalk.u64_in _ (by omega)]
  omega
theorem Jw{b m:Int}(h0:0<=b)(h1:b<=64)(hm:0<=m)(Qv:m<18446744073709551616):pe m b=(mz m (qH b) != 0):=by
 obtain⟨b,rfl⟩:∃n:Nat,b=n:=⟨b.toNat,by omega⟩
 obtain⟨m,rfl⟩:∃n:Nat,m=n:=⟨m.toNat,by omega⟩
 have pX:m<2^64:=by omega
 rw[Ei (by omega),GV]
 have key:=Me (b:=b) pX
 unfold pe
 have e:IntKind.u64.bits=64:=rfl
 rw[e,IntWalk.u64_in _ (by omega),zY,Nat.min_eq_left (by omega)]
 have e3:(m:Int).fdiv (2^b)=((m/2^b:Nat):Int):=by
  rw[show((2:Int)^b)=((2^b:Nat):Int) by simp]
  rw[Int.fdiv_eq_ediv_of_nonneg _ (Int.natCast_nonneg _)]
  rfl
 rw[e3]
 by_cases hz:m/2^b=0
 ·rw[key.2 hz,hz];simp
 ·have hz2:ub m (2^b-1)≠0:=fun h=>hz (key.1 h)
  have hb:b<64:=by
   rcases Nat.lt_or_ge b 64 with h |h
   ·exact h
   ·exact absurd (Nat.div_eq_of_lt (Nat.lt_of_lt_of_le pX (Nat.pow_le_pow_right (by decide) h))) hz
  have a1:((m/2^b:Nat):Int)≠0:=by omega
  have a2:((ub m (2^b-1):Nat):Int)≠0:=by omega
  rw[bne_iff_ne.2 a1,bne_iff_ne.2 a2,zL (by omega)];rfl
theorem Md(b:Nat):mz 0 b=0:=by
 have:=GV 0 b
 rw[show((0:Nat):Int)=0 from rfl]at this
 rw[this]
 have:ub 0 b=0:=by
  apply Nat.eq_of_testBit_eq
  intro i
  rw[yv];simp
 rw[this];rfl
theorem J_{b:Int}{o:eY}(h0:0<=b)(h1:b<=64)(hm:Ix o):uH b o=(y0 b o||lH o):=by
 obtain⟨m0,m1,v0,v1⟩:=hm
 have hk:(decide (o.kind<1)||decide (3<o.kind))=!(o.kind==1||o.kind==2||o.kind==3):=by
  by_cases h1:o.kind=1
  ·simp[h1]
  by_cases h2:o.kind=2
  ·simp[h2]
  by_cases h3:o.kind=3
  ·simp[h3]
  rw[beq_eq_false_iff_ne.2 h1,beq_eq_false_iff_ne.2 h2,beq_eq_false_iff_ne.2 h3]
  by_cases h4:o.kind<1
  ·simp[h4]
  ·simp;omega
 unfold uH y0
 rw[hk,Jw h0 h1 m0 m1]
 obtain⟨b,rfl⟩:∃n:Nat,b=n:=⟨b.toNat,by omega⟩
 have a1:o.cQ=0->mz o.cQ (qH b)=0:=fun h=>by rw[h,Ei (by omega)];exact Md _
 have a2:o.value=0->mz o.value o.cQ=0:=fun h=>by
  rw[h]
  obtain⟨m,hm⟩:∃n:Nat,o.cQ=n:=⟨o.cQ.toNat,by omega⟩
  rw[hm];exact Md _
 generalize (!(o.kind==1||o.kind==2||o.kind==3))=kn
 by_cases xR:o.cQ=0
 ·by_cases UH:o.value=0
  ·rw[a1 xR,a2 UH,xR,UH]
   cases kn<;>cases o.cond<;>simp
  ·rw[a1 xR,xR]
   have:(o.value==0)=false:=beq_eq_false_iff_ne.2 UH
   cases kn<;>cases o.cond<;>simp[bne,this]
 ·have hm':(o.cQ==0)=false:=beq_eq_false_iff_ne.2 xR
  cases kn<;>cases o.cond<;>simp[bne,hm']
theorem Jq{q b:Int}{o:eY}(h0:0<=b)(h1:b<=64)(hm:Ix o):pO q b o=pP q b o:=by
 unfold pO pP qD
 rw[J_ h0 h1 hm]
 cases y0 b o<;>cases lH o<;>rfl
theorem ym{q b:Int}(h0:0<=b)(h1:b<=64):∀{l:List eY}{i:Nat}{n:Int},(∀o∈l,Ix o)->l6 q b l i n=jb q b l i n
 |[],_,_,_=>rfl
 |o::l,i,n,h=>by
  simp only[l6,jb,Jq h0 h1 (h o (by simp))]
  rw[ym h0 h1 (l:=l) (fun z hz=>h z (List.mem_cons_of_mem _ hz))]
theorem Ju{q b:Int}{l:List eY}(h:∀o∈l,Ix o):Cv q b l=il q b l:=by
 unfold Cv il
 by_cases k:q<0\/64<q\/b<0\/64<b
 ·rw[zX k,zX k]
 ·rw[zW k,zW k,ym (by omega) (by omega) h]
end
end Go.Proofs.YtjehibknlmehmaaGreat
