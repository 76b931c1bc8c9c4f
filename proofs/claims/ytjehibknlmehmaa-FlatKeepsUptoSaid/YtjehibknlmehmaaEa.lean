/- Gates, operations, and the check of a circuit. No condition. -/
import Derived.Test.YtjehibknlmehmaaGc
import Derived.Test.YtjehibknlmehmaaWa
set_option maxRecDepth 100000
namespace Go.Proofs.Ytjehibknlmehmaa
section
open Go.Ab
attribute [-simp] aX aF
theorem Ua:iM Pg 9=true:=by kernel_rfl
theorem jP:vg Pg 9 Sb:=M_ Ua
theorem SM:n_ Pg 135=some (.agg [I 0,I 0,B false,B false,Sb ⟨#[]⟩,.sc .nilFunc]):=by kernel_rfl
def Jg(v:AV):Prop:=∃f a b,v=.fn f a b
section
variable {h:AH} {M:Nat->Prop} {R:AE->AH->Prop}
theorem uh{x0 x1:AV}{c0 c1:AV}(h0:cM x0=some [c0]/\cG c0=true)(h1:cM x1=some [c1]/\cG c1=true)(hR:∀v h',Jg v->Fr h h' (fun _=>False)->R (.ret v) h'):aE Pg 89 [x0,x1] h M R:=by
 apply Wb.aM
 unfold Wb.n2
 refine⟨_,h0.1,by rw[List.all_cons,h0.2];rfl,_,h1.1,by rw[List.all_cons,h1.2];rfl,?_⟩
 exact hR _ _ ⟨_,_,_,rfl⟩ ((Fr.refl.alloc _).alloc _)
theorem mH{a b:Int}(hR:∀v h',Jg v->Fr h h' (fun _=>False)->R (.ret v) h'):aE Pg 90 [I a,I b] h M R:=by
 apply Wa.aM
 unfold Wa.n2
 refine⟨_,rfl,rfl,_,rfl,rfl,?_⟩
 exact hR _ _ ⟨_,_,_,rfl⟩ ((Fr.refl.alloc _).alloc _)
theorem Ad{a b c:Int}(hR:∀v h',Jg v->Fr h h' (fun _=>False)->R (.ret v) h'):aE Pg 91 [I a,I b,I c] h M R:=by
 apply V_.aM
 unfold V_.n2
 refine⟨_,rfl,rfl,_,rfl,rfl,_,rfl,rfl,?_⟩
 exact hR _ _ ⟨_,_,_,rfl⟩ (((Fr.refl.alloc _).alloc _).alloc _)
theorem mB{a b c:Int}(hR:∀v h',Jg v->Fr h h' (fun _=>False)->R (.ret v) h'):aE Pg 92 [I a,I b,I c] h M R:=by
 apply V9.aM
 unfold V9.n2
 refine⟨_,rfl,rfl,_,rfl,rfl,_,rfl,rfl,?_⟩
 exact hR _ _ ⟨_,_,_,rfl⟩ (((Fr.refl.alloc _).alloc _).alloc _)
theorem fH{h1 h2:AH}{n:Nat}(f:Fr h h1 (fun _=>False))(hn:h.next<=n)(g:Fr h1 h2 (·=n)):Fr h h2 (fun _=>False):=
 f.trans (g.mono fun id e=>.inr (by rw[e];exact hn))
def lO:List (ByteArray×Int×Int):=[(⟨#[105]⟩,1,0),(⟨#[120]⟩,1,0),(⟨#[121]⟩,1,0),(⟨#[122]⟩,1,0),(⟨#[104]⟩,1,1),(⟨#[115]⟩,1,0),(⟨#[115,100,103]⟩,1,0),(⟨#[116]⟩,1,0),(⟨#[116,100,103]⟩,1,0),(⟨#[118]⟩,1,1),(⟨#[118,100,103]⟩,1,1),(⟨#[119]⟩,1,0),(⟨#[119,100,103]⟩,1,0),(⟨#[99,120]⟩,2,0),(⟨#[99,121]⟩,2,0),(⟨#[99,122]⟩,2,0),(⟨#[99,104]⟩,2,1),(⟨#[99,115]⟩,2,0),(⟨#[99,115,100,103]⟩,2,0),(⟨#[115,119,97,112]⟩,2,0),(⟨#[105,115,119,97,112]⟩,2,0),(⟨#[105,115,119,97,112,100,103]⟩,2,0),(⟨#[99,99,120]⟩,3,0),(⟨#[99,99,122]⟩,3,0),(⟨#[99,115,119,97,112]⟩,3,0)]
inductive oU:List (ByteArray×Int×Int)->List (ByteArray×AV)->Prop
 |nil:oU [] []
 |snoc {t:List (ByteArray×Int×Int)} {l:List (ByteArray×AV)} {n:ByteArray} {a b:Int} {r:List AV}:oU t l->r.length=4->oU (t++[(n,a,b)]) (l++[(n,.agg (I a::I b::r))])
theorem oU.get{t:List (ByteArray×Int×Int)}{l:List (ByteArray×AV)}(hk:oU t l)(n:ByteArray):match t.find? (fun x=>decide (x.1=n)) with |some x=>∃r,fl n l=some (.agg (I x.2.1::I x.2.2::r))/\r.length=4 |none=>fl n l=none:=by
 induction hk with
 |nil=>rfl
 | @snoc t l m a b r hk hr ih=>
  rw[List.find?_append,NP]
  cases hf:t.find? (fun x=>decide (x.1=n)) with
  |some x=>
   rw[hf]at ih
   obtain⟨r',h1,h2⟩:=ih
   exact⟨r',by rw[h1];rfl,h2⟩
  |none=>
   rw[hf]at ih
   simp only at ih
   rw[ih]
   by_cases e:m=n
   ·subst e
    simp only[List.find?_cons,decide_true,Option.none_or]
    exact⟨r,by simp[fl],hr⟩
   ·simp only[List.find?_cons,zK e,List.find?_nil,Option.none_or]
    simp only[fl]
    rw[zW (fun h=>e (Eq.symm h))]
theorem oU.ZH{t:List (ByteArray×Int×Int)}{l:List (ByteArray×AV)}(hk:oU t l){n:ByteArray}(hn:t.all (fun x=>decide (x.1≠n))=true):fl n l=none:=by
 have:=hk.get n
 have hf:t.find? (fun x=>decide (x.1=n))=none:=by
  rw[List.find?_eq_none]
  intro x hx
  have:=List.all_eq_true.1 hn x hx
  simpa using this
 rw[hf]at this
 exact this
theorem dD{n:Nat}{t:List (ByteArray×Int×Int)}{l:List (ByteArray×AV)}{nm:ByteArray}{a b:Int}{r:List AV}{W:Nat->Prop}{K:AH->Prop}(hk:oU t l)(ho:h.obj n=some (lQ Sb 136 l))(hn:t.all (fun x=>decide (x.1≠nm))=true)(hr:r.length=4)(hW:W n)
  (hK:∀l' h',oU (t++[(nm,a,b)]) l'->h'.obj n=some (lQ Sb 136 l')->Fr h h' (·=n)->K h'):eH Pg (some (9,135)) (.mp n) (Sb nm) (.agg (I a::I b::r)) h W K:=
 uC (enc:=Sb) jP hW ho (hk.ZH hn) fun h' h1 h2=>hK _ h' (hk.snoc hr) h1 h2
theorem EZ(hR:∀n l h',h'.obj n=some (lQ Sb 136 l)->oU lO l->Fr h h' (fun _=>False)->R (.ret (.mp n)) h'):aE Pg 78 [] h M R:=by
 apply QU.aM
 unfold QU.n2 QU.n1
 refine Ac (enc:=Sb) fun n h1 ho1 hn f1=>?_
 have kr:=oU.nil
 refine pA ⟨rfl,rfl⟩ fun z2 h2 f' _ _=>?_
 have ho2:=f'.bM ho1
 have f2:=f1.bX f'
 refine⟨fun _=>False,fun _ h=>h.elim,uh ⟨rfl,rfl⟩ ⟨rfl,rfl⟩ fun v3 h3 hv f'=>?_⟩
 obtain⟨_,_,_,rfl⟩:=hv
 have UJ:=f'.bM ho2
 have f3:=f2.bX f'
 refine⟨_,rfl,?_⟩
 refine dD kr UJ (by decide +kernel) rfl (.inr hn) fun l h4 kr P4 f'=>?_
 have f4:=fH f3 hn f'
 refine pA ⟨rfl,rfl⟩ fun z5 h5 f' _ _=>?_
 have UI:=f'.bM P4
 have f5:=f4.bX f'
 refine⟨fun _=>False,fun _ h=>h.elim,uh ⟨rfl,rfl⟩ ⟨rfl,rfl⟩ fun v6 h6 hv f'=>?_⟩
 obtain⟨_,_,_,rfl⟩:=hv
 have ho6:=f'.bM UI
 have f6:=f5.bX f'
 refine⟨_,rfl,?_⟩
 refine dD kr ho6 (by decide +kernel) rfl (.inr hn) fun l h7 kr ho7 f'=>?_
 have f7:=fH f6 hn f'
 refine pA ⟨rfl,rfl⟩ fun z8 h8 f' _ _=>?_
 have ho8:=f'.bM ho7
 have f8:=f7.bX f'
 refine⟨fun _=>False,fun _ h=>h.elim,uh ⟨rfl,rfl⟩ ⟨rfl,rfl⟩ fun v9 h9 hv f'=>?_⟩
 obtain⟨_,_,_,rfl⟩:=hv
 have ho9:=f'.bM ho8
 have f9:=f8.bX f'
 refine⟨_,rfl,?_⟩
 refine dD kr ho9 (by decide +kernel) rfl (.inr hn) fun l pf kr aaG f'=>?_
 have f10:=fH f9 hn f'
 refine⟨fun _=>False,fun _ h=>h.elim,mH fun v11 nU hv f'=>?_⟩
 obtain⟨_,_,_,rfl⟩:=hv
 have aaF:=f'.bM aaG
 have f11:=f10.bX f'
 refine⟨_,rfl,?_⟩
 refine dD kr aaF (by decide +kernel) rfl (.inr hn) fun l vS kr aaE f'=>?_
 have f12:=fH f11 hn f'
 refine⟨fun _=>False,fun _ h=>h.elim,Ad fun v13 HB hv f'=>?_⟩
 obtain⟨_,_,_,rfl⟩:=hv
 have aaD:=f'.bM aaE
 have f13:=f12.bX f'
 refine⟨_,rfl,?_⟩
 refine dD kr aaD (by decide +kernel) rfl (.inr hn) fun l yZ kr aaC f'=>?_
 have f14:=fH f13 hn f'
 refine⟨fun _=>False,fun _ h=>h.elim,mH fun ru vR hv f'=>?_⟩
 obtain⟨_,_,_,rfl⟩:=hv
 have No:=f'.bM aaC
 have f15:=f14.bX f'
 refine⟨_,rfl,?_⟩
 refine dD kr No (by decide +kernel) rfl (.inr hn) fun l sX kr aaB f'=>?_
 have f16:=fH f15 hn f'
 refine⟨fun _=>False,fun _ h=>h.elim,mH fun v17 qK hv f'=>?_⟩
 obtain⟨_,_,_,rfl⟩:=hv
 have aaA:=f'.bM aaB
 have f17:=f16.bX f'
 refine⟨_,rfl,?_⟩
 refine dD kr aaA (by decide +kernel) rfl (.inr hn) fun l vQ kr aaz f'=>?_
 have f18:=fH f17 hn f'
 refine⟨fun _=>False,fun _ h=>h.elim,mH fun CJ qJ hv f'=>?_⟩
 obtain⟨_,_,_,rfl⟩:=hv
 have aay:=f'.bM aaz
 have f19:=f18.bX f'
 refine⟨_,rfl,?_⟩
 refine dD kr aay (by decide +kernel) rfl (.inr hn) fun l sW kr aax f'=>?_
 have f20:=fH f19 hn f'
 refine⟨fun _=>False,fun _ h=>h.elim,mH fun v21 yY hv f'=>?_⟩
 obtain⟨_,_,_,rfl⟩:=hv
 have aaw:=f'.bM aax
 have f21:=f20.bX f'
 refine⟨_,rfl,?_⟩
 refine dD kr aaw (by decide +kernel) rfl (.inr hn) fun l uf kr aav f'=>?_
 have f22:=fH f21 hn f'
 refine⟨fun _=>False,fun _ h=>h.elim,Ad fun v23 Dy hv f'=>?_⟩
 obtain⟨_,_,_,rfl⟩:=hv
 have aau:=f'.bM aav
 have f23:=f22.bX f'
 refine⟨_,rfl,?_⟩
 refine dD kr aau (by decide +kernel) rfl (.inr hn) fun l sV kr aat f'=>?_
 have f24:=fH f23 hn f'
 refine⟨fun _=>False,fun _ h=>h.elim,Ad fun v25 vP hv f'=>?_⟩
 obtain⟨_,_,_,rfl⟩:=hv
 have aas:=f'.bM aat
 have f25:=f24.bX f'
 refine⟨_,rfl,?_⟩
 refine dD kr aas (by decide +kernel) rfl (.inr hn) fun l mS kr aar f'=>?_
 have f26:=fH f25 hn f'
 refine pA ⟨rfl,rfl⟩ fun z27 vO f' _ _=>?_
 have aaq:=f'.bM aar
 have f27:=f26.bX f'
 refine⟨fun _=>False,fun _ h=>h.elim,uh ⟨rfl,rfl⟩ ⟨rfl,rfl⟩ fun v28 qI hv f'=>?_⟩
 obtain⟨_,_,_,rfl⟩:=hv
 have aap:=f'.bM aaq
 have f28:=f27.bX f'
 refine⟨_,rfl,?_⟩
 refine dD kr aap (by decide +kernel) rfl (.inr hn) fun l HA kr aao f'=>?_
 have f29:=fH f28 hn f'
 refine pA ⟨rfl,rfl⟩ fun z30 Dx f' _ _=>?_
 have aan:=f'.bM aao
 have f30:=f29.bX f'
 refine⟨fun _=>False,fun _ h=>h.elim,uh ⟨rfl,rfl⟩ ⟨rfl,rfl⟩ fun v31 Dw hv f'=>?_⟩
 obtain⟨_,_,_,rfl⟩:=hv
 have aam:=f'.bM aan
 have f31:=f30.bX f'
 refine⟨_,rfl,?_⟩
 refine dD kr aam (by decide +kernel) rfl (.inr hn) fun l vN kr aal f'=>?_
 have f32:=fH f31 hn f'
 refine⟨fun _=>False,fun _ h=>h.elim,mB fun v33 ub hv f'=>?_⟩
 obtain⟨_,_,_,rfl⟩:=hv
 have aak:=f'.bM aal
 have f33:=f32.bX f'
 refine⟨_,rfl,?_⟩
 refine dD kr aak (by decide +kernel) rfl (.inr hn) fun l Hz kr aaj f'=>?_
 have f34:=fH f33 hn f'
 refine⟨_,rfl,?_⟩
 refine dD kr aaj (by decide +kernel) rfl (.inr hn) fun l oM kr aai f'=>?_
 have f35:=fH f34 hn f'
 refine⟨fun _=>False,fun _ h=>h.elim,mH fun v36 vM hv f'=>?_⟩
 obtain⟨_,_,_,rfl⟩:=hv
 have aah:=f'.bM aai
 have f36:=f35.bX f'
 refine⟨_,rfl,?_⟩
 refine dD kr aah (by decide +kernel) rfl (.inr hn) fun l sU kr aag f'=>?_
 have f37:=fH f36 hn f'
 refine⟨_,rfl,?_⟩
 refine dD kr aag (by decide +kernel) rfl (.inr hn) fun l Hy kr aaf f'=>?_
 have f38:=fH f37 hn f'
 refine⟨fun _=>False,fun _ h=>h.elim,mH fun v39 vL hv f'=>?_⟩
 obtain⟨_,_,_,rfl⟩:=hv
 have aae:=f'.bM aaf
 have f39:=f38.bX f'
 refine⟨_,rfl,?_⟩
 refine dD kr aae (by decide +kernel) rfl (.inr hn) fun l Dv kr aad f'=>?_
 have f40:=fH f39 hn f'
 refine⟨fun _=>False,fun _ h=>h.elim,mH fun v41 yX hv f'=>?_⟩
 obtain⟨_,_,_,rfl⟩:=hv
 have aac:=f'.bM aad
 have f41:=f40.bX f'
 refine⟨_,rfl,?_⟩
 refine dD kr aac (by decide +kernel) rfl (.inr hn) fun l Hx kr aab f'=>?_
 have f42:=fH f41 hn f'
 refine⟨fun _=>False,fun _ h=>h.elim,mB fun v43 Qu hv f'=>?_⟩
 obtain⟨_,_,_,rfl⟩:=hv
 have aaa:=f'.bM aab
 have f43:=f42.bX f'
 refine⟨_,rfl,?_⟩
 refine dD kr aaa (by decide +kernel) rfl (.inr hn) fun l yW kr Z_ f'=>?_
 have f44:=fH f43 hn f'
 refine⟨fun _=>False,fun _ h=>h.elim,mB fun v45 qH hv f'=>?_⟩
 obtain⟨_,_,_,rfl⟩:=hv
 have Z9:=f'.bM Z_
 have f45:=f44.bX f'
 refine⟨_,rfl,?_⟩
 refine dD kr Z9 (by decide +kernel) rfl (.inr hn) fun l Du kr Z8 f'=>?_
 have f46:=fH f45 hn f'
 refine⟨fun _=>False,fun _ h=>h.elim,mB fun v47 yV hv f'=>?_⟩
 obtain⟨_,_,_,rfl⟩:=hv
 have Z7:=f'.bM Z8
 have f47:=f46.bX f'
 refine⟨_,rfl,?_⟩
 refine dD kr Z7 (by decide +kernel) rfl (.inr hn) fun l qG kr Z6 f'=>?_
 have f48:=fH f47 hn f'
 refine⟨fun _=>False,fun _ h=>h.elim,mB fun v49 yU hv f'=>?_⟩
 obtain⟨_,_,_,rfl⟩:=hv
 have Z5:=f'.bM Z6
 have f49:=f48.bX f'
 refine⟨_,rfl,?_⟩
 refine dD kr Z5 (by decide +kernel) rfl (.inr hn) fun l sT kr Z4 f'=>?_
 have f50:=fH f49 hn f'
 refine⟨fun _=>False,fun _ h=>h.elim,mH fun v51 yT hv f'=>?_⟩
 obtain⟨_,_,_,rfl⟩:=hv
 have Z3:=f'.bM Z4
 have f51:=f50.bX f'
 refine⟨_,rfl,?_⟩
 refine dD kr Z3 (by decide +kernel) rfl (.inr hn) fun l pe kr Z2 f'=>?_
 have f52:=fH f51 hn f'
 refine⟨fun _=>False,fun _ h=>h.elim,mB fun v53 vK hv f'=>?_⟩
 obtain⟨_,_,_,rfl⟩:=hv
 have Z1:=f'.bM Z2
 have f53:=f52.bX f'
 refine⟨_,rfl,?_⟩
 refine dD kr Z1 (by decide +kernel) rfl (.inr hn) fun l Hw kr Z0 f'=>?_
 have f54:=fH f53 hn f'
 exact hR _ _ _ Z0 kr f54
end
def cu(n:ByteArray):Int:=match lO.find? (fun x=>decide (x.1=n)) with |some x=>x.2.1 |none=>0
def jv(n:ByteArray):Int:=match lO.find? (fun x=>decide (x.1=n)) with |some x=>x.2.2 |none=>0
section
variable {h:AH} {M:Nat->Prop} {R:AE->AH->Prop}
theorem Ap{n:ByteArray}(hR:∀h',Fr h h' (fun _=>False)->R (.ret (I (cu n))) h'):aE Pg 47 [Sb n] h M R:=by
 apply QY.aM
 unfold QY.n2 QY.n1
 refine⟨fun _=>False,fun _ h=>h.elim,EZ fun m l h1 ho kr f1=>?_⟩
 refine iQ (enc:=Sb) jP SM ho fun _=>?_
 have hg:=kr.get n
 unfold cu at hR
 cases hf:lO.find? (fun x=>decide (x.1=n)) with
 |none=>
  rw[hf]at hg hR
  simp only at hg
  rw[hg]
  simp[gR,ml]
  exact hR h1 f1
 |some x=>
  rw[hf]at hg hR
  obtain⟨r,hg,hr⟩:=hg
  rw[hg]
  simp[gR,ml]
  exact hR h1 f1
theorem KY{n:ByteArray}(hR:∀h',Fr h h' (fun _=>False)->R (.ret (I (jv n))) h'):aE Pg 49 [Sb n] h M R:=by
 apply QW.aM
 unfold QW.n2 QW.n1
 refine⟨fun _=>False,fun _ h=>h.elim,EZ fun m l h1 ho kr f1=>?_⟩
 refine iQ (enc:=Sb) jP SM ho fun _=>?_
 have hg:=kr.get n
 unfold jv at hR
 cases hf:lO.find? (fun x=>decide (x.1=n)) with
 |none=>
  rw[hf]at hg hR
  simp only at hg
  rw[hg]
  simp[gR,ml]
  exact hR h1 f1
 |some x=>
  rw[hf]at hg hR
  obtain⟨r,hg,hr⟩:=hg
  rw[hg]
  simp[gR,ml]
  exact hR h1 f1
end
end
section
open Go.Ab
attribute [-simp] aX aF
section
variable {h:AH} {M:Nat->Prop} {R:AE->AH->Prop}
theorem nc{n:ByteArray}(hR:R (.ret (I (cu n))) h):aE Pg 54 [Sb n] h M R:=by
 apply YW.aM
 by_cases k0:n=⟨#[105]⟩
 ·subst k0
  rw[show cu ⟨#[105]⟩=1 by decide +kernel]at hR
  simp(decide:=true)
  exact hR
 by_cases k1:n=⟨#[120]⟩
 ·subst k1
  rw[show cu ⟨#[120]⟩=1 by decide +kernel]at hR
  simp(decide:=true)
  exact hR
 by_cases k2:n=⟨#[121]⟩
 ·subst k2
  rw[show cu ⟨#[121]⟩=1 by decide +kernel]at hR
  simp(decide:=true)
  exact hR
 by_cases k3:n=⟨#[122]⟩
 ·subst k3
  rw[show cu ⟨#[122]⟩=1 by decide +kernel]at hR
  simp(decide:=true)
  exact hR
 by_cases k4:n=⟨#[104]⟩
 ·subst k4
  rw[show cu ⟨#[104]⟩=1 by decide +kernel]at hR
  simp(decide:=true)
  exact hR
 by_cases k5:n=⟨#[115]⟩
 ·subst k5
  rw[show cu ⟨#[115]⟩=1 by decide +kernel]at hR
  simp(decide:=true)
  exact hR
 by_cases k6:n=⟨#[115,100,103]⟩
 ·subst k6
  rw[show cu ⟨#[115,100,103]⟩=1 by decide +kernel]at hR
  simp(decide:=true)
  exact hR
 by_cases k7:n=⟨#[116]⟩
 ·subst k7
  rw[show cu ⟨#[116]⟩=1 by decide +kernel]at hR
  simp(decide:=true)
  exact hR
 by_cases k8:n=⟨#[116,100,103]⟩
 ·subst k8
  rw[show cu ⟨#[116,100,103]⟩=1 by decide +kernel]at hR
  simp(decide:=true)
  exact hR
 by_cases k9:n=⟨#[118]⟩
 ·subst k9
  rw[show cu ⟨#[118]⟩=1 by decide +kernel]at hR
  simp(decide:=true)
  exact hR
 by_cases fF:n=⟨#[118,100,103]⟩
 ·subst fF
  rw[show cu ⟨#[118,100,103]⟩=1 by decide +kernel]at hR
  simp(decide:=true)
  exact hR
 by_cases iR:n=⟨#[119]⟩
 ·subst iR
  rw[show cu ⟨#[119]⟩=1 by decide +kernel]at hR
  simp(decide:=true)
  exact hR
 by_cases kQ:n=⟨#[119,100,103]⟩
 ·subst kQ
  rw[show cu ⟨#[119,100,103]⟩=1 by decide +kernel]at hR
  simp(decide:=true)
  exact hR
 by_cases nj:n=⟨#[99,120]⟩
 ·subst nj
  rw[show cu ⟨#[99,120]⟩=2 by decide +kernel]at hR
  simp(decide:=true)
  exact hR
 by_cases nP:n=⟨#[99,121]⟩
 ·subst nP
  rw[show cu ⟨#[99,121]⟩=2 by decide +kernel]at hR
  simp(decide:=true)
  exact hR
 by_cases oG:n=⟨#[99,122]⟩
 ·subst oG
  rw[show cu ⟨#[99,122]⟩=2 by decide +kernel]at hR
  simp(decide:=true)
  exact hR
 by_cases oZ:n=⟨#[99,104]⟩
 ·subst oZ
  rw[show cu ⟨#[99,104]⟩=2 by decide +kernel]at hR
  simp(decide:=true)
  exact hR
 by_cases nO:n=⟨#[99,115]⟩
 ·subst nO
  rw[show cu ⟨#[99,115]⟩=2 by decide +kernel]at hR
  simp(decide:=true)
  exact hR
 by_cases sK:n=⟨#[99,115,100,103]⟩
 ·subst sK
  rw[show cu ⟨#[99,115,100,103]⟩=2 by decide +kernel]at hR
  simp(decide:=true)
  exact hR
 by_cases sJ:n=⟨#[115,119,97,112]⟩
 ·subst sJ
  rw[show cu ⟨#[115,119,97,112]⟩=2 by decide +kernel]at hR
  simp(decide:=true)
  exact hR
 by_cases rJ:n=⟨#[105,115,119,97,112]⟩
 ·subst rJ
  rw[show cu ⟨#[105,115,119,97,112]⟩=2 by decide +kernel]at hR
  simp(decide:=true)
  exact hR
 by_cases vC:n=⟨#[105,115,119,97,112,100,103]⟩
 ·subst vC
  rw[show cu ⟨#[105,115,119,97,112,100,103]⟩=2 by decide +kernel]at hR
  simp(decide:=true)
  exact hR
 by_cases qB:n=⟨#[99,99,120]⟩
 ·subst qB
  rw[show cu ⟨#[99,99,120]⟩=3 by decide +kernel]at hR
  simp(decide:=true)
  exact hR
 by_cases tR:n=⟨#[99,99,122]⟩
 ·subst tR
  rw[show cu ⟨#[99,99,122]⟩=3 by decide +kernel]at hR
  simp(decide:=true)
  exact hR
 by_cases sI:n=⟨#[99,115,119,97,112]⟩
 ·subst sI
  rw[show cu ⟨#[99,115,119,97,112]⟩=3 by decide +kernel]at hR
  simp(decide:=true)
  exact hR
 have e:cu n=0:=by
  unfold cu
  rw[show lO.find? (fun x=>decide (x.1=n))=none from ?_]
  rw[List.find?_eq_none]
  intro x hx
  simp only[decide_eq_true_eq]
  rintro rfl
  simp only[lO,List.mem_cons,List.not_mem_nil,or_false]at hx
  rcases hx with rfl |rfl |rfl |rfl |rfl |rfl |rfl |rfl |rfl |rfl |rfl |rfl |rfl |rfl |rfl |rfl |rfl |rfl |rfl |rfl |rfl |rfl |rfl |rfl |rfl
  all_goals (first |exact k0 rfl |exact k1 rfl |exact k2 rfl |exact k3 rfl |exact k4 rfl |exact k5 rfl |exact k6 rfl |exact k7 rfl |exact k8 rfl |exact k9 rfl |exact fF rfl |exact iR rfl |exact kQ rfl |exact nj rfl |exact nP rfl |exact oG rfl |exact oZ rfl |exact nO rfl |exact sK rfl |exact sJ rfl |exact rJ rfl |exact vC rfl |exact qB rfl |exact tR rfl |exact sI rfl)
 rw[e]at hR
 simp[k0,k1,k2,k3,k4,k5,k6,k7,k8,k9,fF,iR,kQ,nj,nP,oG,oZ,nO,sK,sJ,rJ,vC,qB,tR,sI]
 exact hR
theorem EG{n:ByteArray}(hR:R (.ret (I (jv n))) h):aE Pg 57 [Sb n] h M R:=by
 apply YV.aM
 by_cases k0:n=⟨#[104]⟩
 ·subst k0
  rw[show jv ⟨#[104]⟩=1 by decide +kernel]at hR
  simp(decide:=true)
  exact hR
 by_cases k1:n=⟨#[118]⟩
 ·subst k1
  rw[show jv ⟨#[118]⟩=1 by decide +kernel]at hR
  simp(decide:=true)
  exact hR
 by_cases k2:n=⟨#[118,100,103]⟩
 ·subst k2
  rw[show jv ⟨#[118,100,103]⟩=1 by decide +kernel]at hR
  simp(decide:=true)
  exact hR
 by_cases k3:n=⟨#[99,104]⟩
 ·subst k3
  rw[show jv ⟨#[99,104]⟩=1 by decide +kernel]at hR
  simp(decide:=true)
  exact hR
 have e:jv n=0:=by
  unfold jv
  split
  ·rename_i x hx
   have h1:=List.mem_of_find?_eq_some hx
   have h2:=List.find?_some hx
   simp only[decide_eq_true_eq]at h2
   subst h2
   simp only[lO,List.mem_cons,List.not_mem_nil,or_false]at h1
   rcases h1 with rfl |rfl |rfl |rfl |rfl |rfl |rfl |rfl |rfl |rfl |rfl |rfl |rfl |rfl |rfl |rfl |rfl |rfl |rfl |rfl |rfl |rfl |rfl |rfl |rfl
   all_goals (first |rfl |exact absurd rfl k0 |exact absurd rfl k1 |exact absurd rfl k2 |exact absurd rfl k3)
  ·rfl
 rw[e]at hR
 simp[k0,k1,k2,k3]
 exact hR
def fQ{α:Type}[DecidableEq α](x:α):List α->Nat->Option Nat
 |[],_=>none
 |a::l,i=>if x=a then some i else fQ x l (i+1)
end
end
section
open Go.Ab
attribute [-simp] aX aF
def cq(n:Int):List AV:=[I n]
def hZ(s:ByteArray):List AV:=[Sb s]
theorem eX(n:Int):(cq n).length=1:=rfl
theorem Al(n:ByteArray):(hZ n).length=1:=rfl
def eV{α:Type}[DecidableEq α](x:α)(l:List α):Bool:=(fQ x l 0).isSome
theorem wS{α:Type}[DecidableEq α]{x:α}:∀{l:List α}{i j:Nat},fQ x l i=some j->i<=j/\x∈l
 |a::l,i,j,h=>by
  simp only[fQ]at h
  split at h
  ·rename_i e;cases h;exact⟨zU _,by rw[e];simp⟩
  ·have:=wS h;exact⟨by omega,by simp[this.2]⟩
theorem Dh{α:Type}[DecidableEq α]{x:α}:∀{l:List α}{i:Nat},fQ x l i=none->x∉l
 |[],_,_=>by simp
 |a::l,i,h=>by
  simp only[fQ]at h
  split at h
  ·cases h
  ·rename_i e
   have:=Dh h
   simp only[List.mem_cons,not_or]
   exact⟨e,this⟩
section
variable {h:AH} {M:Nat->Prop} {R:AE->AH->Prop}
theorem Kw{x:AV}{l:List Int}{q:Int}(hx:cH cq 1 3 h x l)(hl:l.length<=9000000000000000000)(hR:R (.ret (I (match fQ q l 0 with |some j=>j |none=>-1))) h):aE Pg 79 [x,I q] h M R:=by
 apply qi.aM
 simp only[qi.a_,qi.aQ,hx.len.1,hx.len.2,zH]
 unfold qi.n9
 refine bU (ι:=Nat) (fun i v h'=>v=[x,I q,I l.length,I i]/\i<=l.length/\h'=h/\fQ q (l.drop i) i=fQ q l 0) (fun i=>l.length-i) 0 ⟨rfl,by omega,rfl,rfl⟩ ?_
 rintro K i v h' ⟨rfl,hi,rfl,he⟩ hK
 simp only[qi.cB,zN,zO]
 by_cases aR:i<l.length
 ·have eh:(i:Int)<l.length:=by omega
  have g1:l[i]?=some l[i]:=zJ aR
  have w1:IntKind.i64.wrap ((i:Int)+1)=((i+1:Nat):Int):=by rw[aS (by omega) (by omega)];simp
  rw[List.drop_eq_getElem_cons aR]at he
  simp only[fQ]at he
  generalize l[i]=y at *
  simp only[qi.n8,aZ,zL eh,qi.n7,aj,zD,zF,zC,zI,qi.n6,qi.n5]
  refine gZ hx eX g1 rfl fun _=>?_
  rw[eG]
  by_cases e:q=y
  ·rw[zX e]at he
   rw[<-he]at hR
   simp only[beq_iff_eq.2 e,qi.n4,aj,zD,zF,zC,zI,qi.n3]
   simpa using hR
  ·rw[zW e]at he
   simp only[beq_eq_false_iff_ne.2 e,qi.n4,aj,zD,zE,zC,zH,qi.n2,aT,w1]
   exact hK (i+1) _ _ (by omega) ⟨rfl,by omega,rfl,he⟩
 ·have dA:¬(i:Int)<l.length:=by omega
  rw[List.drop_of_length_le (by omega)]at he
  rw[<-he]at hR
  simp only[qi.n8,aZ,zK dA,qi.n7,aj,zD,zE,zC,zH,zV,qi.n1]
  simpa[fQ] using hR
theorem Gb{x:AV}{l:List Int}{q:Int}(hx:cH cq 1 3 h x l)(hl:l.length<=9000000000000000000)(hR:R (.ret (B (eV q l))) h):aE Pg 48 [x,I q] h M R:=by
 apply QX.aM
 unfold QX.n2 QX.n1
 refine⟨fun _=>False,fun _ h=>h.elim,Kw hx hl ?_⟩
 unfold eV at hR
 simp only[io]
 cases hj:fQ q l 0 with
 |some j=>
  rw[hj]at hR
  have h1:(0:Int)<=j:=by omega
  simp only[ge_iff_le,zL h1]
  simpa using hR
 |none=>
  rw[hj]at hR
  simpa using hR
theorem Kv{x:AV}{l:List ByteArray}{q:ByteArray}(hx:cH hZ 1 9 h x l)(hl:l.length<=9000000000000000000)(hR:R (.ret (I (match fQ q l 0 with |some j=>j |none=>-1))) h):aE Pg 95 [x,Sb q] h M R:=by
 apply qh.aM
 simp only[qh.a_,qh.aQ,hx.len.1,hx.len.2,zH]
 unfold qh.n9
 refine bU (ι:=Nat) (fun i v h'=>v=[x,Sb q,I l.length,I i]/\i<=l.length/\h'=h/\fQ q (l.drop i) i=fQ q l 0) (fun i=>l.length-i) 0 ⟨rfl,by omega,rfl,rfl⟩ ?_
 rintro K i v h' ⟨rfl,hi,rfl,he⟩ hK
 simp only[qh.cB,zN,zO]
 by_cases aR:i<l.length
 ·have eh:(i:Int)<l.length:=by omega
  have g1:l[i]?=some l[i]:=zJ aR
  have w1:IntKind.i64.wrap ((i:Int)+1)=((i+1:Nat):Int):=by rw[aS (by omega) (by omega)];simp
  rw[List.drop_eq_getElem_cons aR]at he
  simp only[fQ]at he
  generalize l[i]=y at *
  simp only[qh.n8,aZ,zL eh,qh.n7,aj,zD,zF,zC,zI,qh.n6,qh.n5]
  refine gZ hx Al g1 rfl fun _=>?_
  rw[bB]
  by_cases e:q=y
  ·rw[zX e]at he
   rw[<-he]at hR
   simp only[zL e,qh.n4,aj,zD,zF,zC,zI,qh.n3]
   simpa using hR
  ·rw[zW e]at he
   simp only[zK e,qh.n4,aj,zD,zE,zC,zH,qh.n2,aT,w1]
   exact hK (i+1) _ _ (by omega) ⟨rfl,by omega,rfl,he⟩
 ·have dA:¬(i:Int)<l.length:=by omega
  rw[List.drop_of_length_le (by omega)]at he
  rw[<-he]at hR
  simp only[qh.n8,aZ,zK dA,qh.n7,aj,zD,zE,zC,zH,zV,qh.n1]
  simpa[fQ] using hR
theorem Ga{x:AV}{l:List ByteArray}{q:ByteArray}(hx:cH hZ 1 9 h x l)(hl:l.length<=9000000000000000000)(hR:R (.ret (B (eV q l))) h):aE Pg 85 [x,Sb q] h M R:=by
 apply QT.aM
 unfold QT.n2 QT.n1
 refine⟨fun _=>False,fun _ h=>h.elim,Kv hx hl ?_⟩
 unfold eV at hR
 simp only[io]
 cases hj:fQ q l 0 with
 |some j=>
  rw[hj]at hR
  have h1:(0:Int)<=j:=by omega
  simp only[ge_iff_le,zL h1]
  simpa using hR
 |none=>
  rw[hj]at hR
  simpa using hR
end
end
section
open Go.Ab
attribute [-simp] aX aF
structure dS where
 kind:Int
 name:ByteArray
 aI:List Int
 bit:Int
 cond:Bool
 cN:Int
 value:Int
def cf(y:dS×AV):List AV:=[I y.1.kind,Sb y.1.name,y.2,I y.1.bit,B y.1.cond,U y.1.cN,U y.1.value]
theorem eW(y:dS×AV):(cf y).length=7:=rfl
theorem jU{y:dS×AV}(h:cG y.2=true):(cf y).all cG=true:=by
 show(true&&(true&&(cG y.2&&(true&&(true&&(true&&(true&&true)))))))=true
 rw[h];rfl
def lS(a b:Int):Int:=IntKind.u64.wrap (BitVec.ofInt IntKind.u64.bits a &&& ~~~ BitVec.ofInt IntKind.u64.bits b).toNat
def QG(b:Int):Int:=IntKind.u64.wrap (IntKind.u64.wrap (1*2^(min b.toNat IntKind.u64.bits))-1)
def pI(b:Int):Int:=if b=64 then 18446744073709551615 else QG b
def yf(b:Int)(o:dS):Bool:=!(o.kind==1||o.kind==2||o.kind==3)||(o.cond&&o.cN==0)||(!o.cond&&(o.cN != 0||o.value != 0))||(lS o.cN (pI b) != 0)||(lS o.value o.cN != 0)
def k_(o:dS):Bool:=(o.kind != 1&&!decide (o.name=ByteArray.empty))||(o.kind != 2&&o.bit != 0)
def ET(o:dS):Int:=if o.kind=1 then cu o.name else 1
def z6(q:Int)(l:List Int):Bool:=l.any fun z=>decide (z<0)||decide (q<=z)
def rS(l:List Int):Bool:=(List.range l.length).any fun i=>eV (l.getD i 0) (l.take i)
def oQ(q b:Int)(o:dS):Int:=
 if yf b o then 120 else if k_ o then 120 else if o.kind=1/\cu o.name=0 then 80 else if (o.aI.length:Int)≠ET o then 111
 else if z6 q o.aI then 112 else if o.kind=2/\(o.bit<0\/b<=o.bit) then 112 else if rS o.aI then 113 else 0
theorem Lq{l:List Int}{i:Nat}(hi:i<l.length)(h:eV l[i] (l.take i)=true):rS l=true:=by
 unfold rS
 rw[List.any_eq_true]
 exact⟨i,List.mem_range.2 hi,by rw[List.getD_eq_getElem?_getD,zJ hi];exact h⟩
theorem Lp{l:List Int}(h:∀i (hi:i<l.length),eV l[i] (l.take i)=false):rS l=false:=by
 unfold rS
 rw[List.any_eq_false]
 intro i hi
 have:=List.mem_range.1 hi
 rw[List.getD_eq_getElem?_getD,zJ this]
 simp only[Option.getD_some,h i this]
 decide
theorem Kb{q:Int}{l:List Int}{i:Nat}(hi:i<l.length)(h:l[i]<0\/q<=l[i]):z6 q l=true:=by
 unfold z6
 rw[List.any_eq_true]
 exact⟨l[i],List.getElem_mem hi,by simpa using h⟩
theorem Ka{q:Int}{l:List Int}(h:∀i (hi:i<l.length),¬(l[i]<0\/q<=l[i])):z6 q l=false:=by
 unfold z6
 rw[List.any_eq_false]
 intro z hz
 obtain⟨i,hi,rfl⟩:=List.mem_iff_getElem.1 hz
 simpa using h i hi
theorem Ow{α:Type}{f:α->List AV}{sz:Nat}{ty:TypeId}{h:AH}{x:AV}{l:List α}{K:AV->Prop}(hx:cH f sz ty h x l){i:Nat}(hi:i<l.length)
  (hK:∀y,cH f sz ty h y (l.take i)->K y):oE (some sz) x none (some (I i)) h K:=by
 rcases hx with⟨_,rfl⟩ |⟨_,_,_,rfl⟩ |⟨id,rest,ro,j3,rfl,h1,h2⟩
 ·simp at hi
 ·simp at hi
 ·refine Ly (by omega) (hK _ (.inr (.inr ⟨id,(l.drop i).flatMap f++rest,ro,j3,by rw[yA,Nat.min_eq_left (by omega)],h1,?_⟩)))
  rw[h2,<-List.append_assoc,<-List.flatMap_append,List.take_append_drop]
section
variable {W:Nat->Prop} {QR QN:VK} {QE:Nat->VK} {QP:AV->AH->Prop} {h:AH} {vc vo:Nat} {q b:Int} {oe xa:AV} {o:dS}
theorem Sy(ho:h.obj vo=some (aN (cf (o,xa)) 7 49))(hq:cH cq 1 3 h xa o.aI)(hl:o.aI.length<=9000000000000000000)
  (hR:QR [I (if rS o.aI then 113 else 0)] h):dr.aQ W QR QN QE QP (.ptr vo 0) h:=by
 unfold dr.aQ
 simp only[ag,au,ho,ao,zG,cf,zB,zA,ab,hq.len.1,hq.len.2,zH]
 unfold dr.n9
 refine bU (ι:=Nat) (fun i v h'=>v=[.ptr vo 0,xa,I o.aI.length,I i]/\i<=o.aI.length/\h'=h/\∀j (hj:j<o.aI.length),j<i->eV o.aI[j] (o.aI.take j)=false) (fun i=>o.aI.length-i) 0 ⟨rfl,by omega,rfl,fun j _ h=>by omega⟩ ?_
 rintro K i v h' ⟨rfl,hi,rfl,hb⟩ hK
 simp only[dr.cB,zN,zO]
 by_cases aR:i<o.aI.length
 ·have eh:(i:Int)<o.aI.length:=by omega
  have g1:o.aI[i]?=some o.aI[i]:=zJ aR
  have w1:IntKind.i64.wrap ((i:Int)+1)=((i+1:Nat):Int):=by rw[aS (by omega) (by omega)];simp
  have key:=fun hh=>Lq (l:=o.aI) aR hh
  have qF:eV o.aI[i] (o.aI.take i)=false->∀j (hj:j<o.aI.length),j<i+1->eV o.aI[j] (o.aI.take j)=false:=fun h0 j hj lH=>by
   rcases Nat.lt_succ_iff_lt_or_eq.1 lH with h1 |h1
   ·exact hb j hj h1
   ·subst h1;exact h0
  generalize o.aI[i]=y at *
  simp only[dr.n8,aZ,zL eh,dr.n7,aj,zD,zF,zC,zI,dr.n6]
  refine gZ hq eX g1 rfl fun _=>?_
  simp only[dr.n5,ag,au,ho,ao,zG,cf,zB,zA,ab]
  refine Ow hq aR fun z hz=>?_
  refine⟨fun _=>False,fun _ h=>h.elim,Gb hz (by rw[yA];omega) ?_⟩
  cases hm:eV y (o.aI.take i) with
  |true=>
   rw[key hm]at hR
   simpa using hR
  |false=>
   simp only[dr.n4,aj,zE,zC,zD,zH,dr.n2,aT,w1]
   exact hK (i+1) _ _ (by omega) ⟨rfl,by omega,rfl,qF hm⟩
 ·have dA:¬(i:Int)<o.aI.length:=by omega
  rw[Lp fun j hj=>hb j hj (by omega)]at hR
  simpa[dA] using hR
theorem Sz(hc:h.obj vc=some (aN [I q,I b,oe] 3 27))(ho:h.obj vo=some (aN (cf (o,xa)) 7 49))(hq:cH cq 1 3 h xa o.aI)(hl:o.aI.length<=9000000000000000000)
  (hR:QR [I (if o.kind=2/\(o.bit<0\/b<=o.bit) then 112 else if rS o.aI then 113 else 0)] h):dr.bH W QR QN QE QP (.ptr vc 0) (.ptr vo 0) h:=by
 have fin:∀c:Bool,c=decide (o.kind=2/\(o.bit<0\/b<=o.bit))->dr.bc W QR QN QE QP (.ptr vo 0) (B c) h:=fun c qE=>by
  cases c with
  |true=>
   rw[zX (of_decide_eq_true qE.symm)]at hR
   simpa[dr.bc] using hR
  |false=>
   rw[zW (of_decide_eq_false qE.symm)]at hR
   simp only[dr.bc,aj,zE,zC,zD,zH]
   exact Sy ho hq hl hR
 have f1:=fin _ rfl
 by_cases k1:o.kind=2
 ·by_cases k2:o.bit<0
  ·simp[-dr.bc,k1,k2]at f1
   simp[-dr.bc,ho,hc,cf,k1,k2]
   exact f1
  ·by_cases k3:b<=o.bit
   ·simp[-dr.bc,k1,k2,k3]at f1
    simp[-dr.bc,ho,hc,cf,k1,k2,k3]
    exact f1
   ·simp[-dr.bc,k1,k2,k3]at f1
    simp[-dr.bc,ho,hc,cf,k1,k2,k3]
    exact f1
 ·simp[-dr.bc,k1]at f1
  have eK:(o.kind==2)=false:=by simpa using k1
  simp[-dr.bc,ho,hc,cf,eK]
  exact f1
theorem Sx(hc:h.obj vc=some (aN [I q,I b,oe] 3 27))(ho:h.obj vo=some (aN (cf (o,xa)) 7 49))(hq:cH cq 1 3 h xa o.aI)(hl:o.aI.length<=9000000000000000000)
  (hR:QR [I (if z6 q o.aI then 112 else if o.kind=2/\(o.bit<0\/b<=o.bit) then 112 else if rS o.aI then 113 else 0)] h):dr.cy W QR QN QE QP (.ptr vc 0) (.ptr vo 0) h:=by
 unfold dr.cy
 simp only[ag,au,ho,ao,zG,cf,zB,zA,ab,hq.len.1,hq.len.2,zH]
 unfold dr.bV
 refine bU (ι:=Nat) (fun i v h'=>v=[.ptr vc 0,.ptr vo 0,xa,I o.aI.length,I i]/\i<=o.aI.length/\h'=h/\∀j (hj:j<o.aI.length),j<i->¬(o.aI[j]<0\/q<=o.aI[j])) (fun i=>o.aI.length-i) 0 ⟨rfl,by omega,rfl,fun j _ h=>by omega⟩ ?_
 rintro K i v h' ⟨rfl,hi,rfl,hb⟩ hK
 simp only[dr.fY,zN,zO]
 by_cases aR:i<o.aI.length
 ·have eh:(i:Int)<o.aI.length:=by omega
  have g1:o.aI[i]?=some o.aI[i]:=zJ aR
  have w1:IntKind.i64.wrap ((i:Int)+1)=((i+1:Nat):Int):=by rw[aS (by omega) (by omega)];simp
  have key:=fun hh=>Kb (q:=q) (l:=o.aI) aR hh
  have qF:¬(o.aI[i]<0\/q<=o.aI[i])->∀j (hj:j<o.aI.length),j<i+1->¬(o.aI[j]<0\/q<=o.aI[j]):=fun h0 j hj lH=>by
   rcases Nat.lt_succ_iff_lt_or_eq.1 lH with h1 |h1
   ·exact hb j hj h1
   ·subst h1;exact h0
  generalize o.aI[i]=y at *
  simp only[dr.cl,aZ,zL eh,dr.cj,aj,zD,zF,zC,zI]
  unfold dr.cn
  refine gZ hq eX g1 rfl fun _=>?_
  by_cases k1:y<0
  ·rw[key (.inl k1)]at hR
   simp[dr.cb,dr.bW,dr.cp,dr.b_,k1]
   simpa using hR
  ·by_cases k2:q<=y
   ·rw[key (.inr k2)]at hR
    simp[dr.cb,dr.bW,dr.cp,dr.b_,k1,hc,k2]
    simpa using hR
   ·simp[dr.cb,dr.bW,dr.cp,dr.b_,k1,hc,k2,w1]
    exact hK (i+1) _ _ (by omega) ⟨rfl,by omega,rfl,qF (by omega)⟩
 ·have dA:¬(i:Int)<o.aI.length:=by omega
  rw[Ka fun j hj=>hb j hj (by omega)]at hR
  simp[-dr.bH,dA]
  exact Sz hc ho hq hl (by simpa using hR)
def pF(q b:Int)(o:dS):Int:=if z6 q o.aI then 112 else if o.kind=2/\(o.bit<0\/b<=o.bit) then 112 else if rS o.aI then 113 else 0
theorem H6(hc:h.obj vc=some (aN [I q,I b,oe] 3 27))(ho:h.obj vo=some (aN (cf (o,xa)) 7 49))(hq:cH cq 1 3 h xa o.aI)(hl:o.aI.length<=9000000000000000000){n:Int}
  (hR:QR [I (if (o.aI.length:Int)≠n then 111 else pF q b o)] h):dr.da W QR QN QE QP (.ptr vc 0) (.ptr vo 0) (I n) h:=by
 unfold dr.da
 simp only[ag,au,ho,ao,zG,cf,zB,zA,ab,hq.len.1,hq.len.2,zH,b5,pq]
 by_cases k:(o.aI.length:Int)=n
 ·rw[zW (by simpa using k)]at hR
  rw[zL k]
  simp only[dr.cK,aj,zS,zE,zC,zD,zH]
  exact Sx hc ho hq hl hR
 ·rw[zX k]at hR
  rw[zK k]
  simpa[dr.cK] using hR
theorem OZ(hc:h.obj vc=some (aN [I q,I b,oe] 3 27))(ho:h.obj vo=some (aN (cf (o,xa)) 7 49))(hq:cH cq 1 3 h xa o.aI)(hl:o.aI.length<=9000000000000000000)
  (hR:∀h',Fr h h' (fun _=>False)->QR [I (if o.kind=1/\cu o.name=0 then 80 else if (o.aI.length:Int)≠ET o then 111 else pF q b o)] h'):dr.eJ W QR QN QE QP (.ptr vc 0) (.ptr vo 0) h:=by
 unfold dr.eJ dr.ed
 simp only[ag,au,ho,ao,zG,cf,zB,zA,ab,eG]
 unfold ET at hR
 by_cases k:o.kind=1
 ·have k':(o.kind==1)=true:=by simpa using k
  rw[k']
  simp only[dr.dV,aj,zF,zC,zD,zI,dr.dT,ag,au,ho,ao,zG,cf,zB,zA,ab]
  refine⟨fun _=>False,fun _ h=>h.elim,Ap fun h1 f1=>?_⟩
  have hR:=hR h1 f1
  by_cases k2:cu o.name=0
  ·rw[zX ⟨k,k2⟩]at hR
   simpa[dr.dW,dr.dx,k2] using hR
  ·rw[zW (fun h=>k2 h.2),zX k]at hR
   have T4:(cu o.name==0)=false:=by simpa using k2
   simp only[dr.dW,eG,T4,dr.dx,aj,zE,zC,zD,zH]
   exact H6 (f1.bM hc) (f1.bM ho) (hq.aU f1) hl hR
 ·have k':(o.kind==1)=false:=by simpa using k
  rw[k']
  have hR:=hR h Fr.refl
  rw[zW (fun h=>k h.1),zW k]at hR
  simp only[dr.dV,aj,zE,zC,zD,zH]
  exact H6 hc ho hq hl hR
theorem OX(hc:h.obj vc=some (aN [I q,I b,oe] 3 27))(ho:h.obj vo=some (aN (cf (o,xa)) 7 49))(hq:cH cq 1 3 h xa o.aI)(hl:o.aI.length<=9000000000000000000)
  (hR:∀h',Fr h h' (fun _=>False)->QR [I (if k_ o then 120 else if o.kind=1/\cu o.name=0 then 80 else if (o.aI.length:Int)≠ET o then 111 else pF q b o)] h'):dr.gg W QR QN QE QP (.ptr vc 0) (.ptr vo 0) h:=by
 have fin:∀c:Bool,c=k_ o->dr.dL W QR QN QE QP (.ptr vc 0) (.ptr vo 0) (B c) h:=fun c qE=>by
  rw[<-qE]at hR
  cases c with
  |true=>simpa[dr.dL] using hR h Fr.refl
  |false=>
   simp only[dr.dL,aj,zE,zC,zD,zH]
   exact OZ hc ho hq hl hR
 have f1:=fin _ rfl
 unfold k_ at f1
 have e0:(⟨#[]⟩:ByteArray)=ByteArray.empty:=rfl
 revert f1
 cases k1:(o.kind==1)<;>by_cases k2:o.name=ByteArray.empty<;>cases k3:(o.kind==2)<;>cases k4:(o.bit==0)<;>intro f1 <;>
  simp[-dr.dL,bne,k1,k2,k3,k4]at f1<;>simp[-dr.dL,bne,ho,hc,cf,k1,k2,k3,k4,e0]<;>exact f1
end
end
section
open Go.Ab
attribute [-simp] aX aF
section
variable {W:Nat->Prop} {QR QN:VK} {QE:Nat->VK} {QP:AV->AH->Prop} {h:AH} {vc vo:Nat} {q b:Int} {oe xa:AV} {o:dS}
theorem wG{t:TypeId}{c:Bool}{x y:Int}{K:AV->Prop}:ah Pg .andNot t c (U x) (U y) K=K (U (lS x y)):=by
 simp[ah,lS]
theorem OY{kn:Bool}(ho:h.obj vo=some (aN (cf (o,xa)) 7 49))
  (hK:dr.fq W QR QN QE QP (.ptr vc 0) (.ptr vo 0) (B (!kn||(o.cond&&o.cN==0)||(!o.cond&&(o.cN != 0||o.value != 0))||(lS o.cN (pI b) != 0)||(lS o.value o.cN != 0))) h):dr.vz W QR QN QE QP (.ptr vc 0) (.ptr vo 0) (B kn) (U (pI b)) h:=by
 revert hK
 cases kn with
 |false=>intro hK;simp[-dr.fq]at hK;simp[-dr.fq];exact hK
 |true=>
  cases k1:o.cond<;>cases k2:(o.cN==0)<;>cases k3:(o.value==0)<;>cases k4:(lS o.cN (pI b)==0)<;>cases k5:(lS o.value o.cN==0)<;>intro hK <;>
   simp[-dr.fq,bne,k1,k2,k3,k4,k5]at hK<;>simp[-dr.fq,bne,ho,cf,k1,k2,k3,k4,k5,wG]<;>exact hK
theorem O0{kn:Bool}(hb:0<=b)(hc:h.obj vc=some (aN [I q,I b,oe] 3 27))(hK:dr.vz W QR QN QE QP (.ptr vc 0) (.ptr vo 0) (B kn) (U (pI b)) h):dr.tQ W QR QN QE QP (.ptr vc 0) (.ptr vo 0) (B kn) h:=by
 unfold pI at hK
 by_cases k:b=64
 ·rw[zX k]at hK
  subst k
  simp[-dr.vz,hc,ah]
  exact hK
 ·rw[zW k]at hK
  have k':(b==64)=false:=by simpa using k
  simp only[dr.tQ,ag,au,hc,ao,zG,zB,zA,ab,ah,hb,zH,dr.A0,k',dr.C7,aj,zE,zC,zD]
  exact hK
theorem LY(hb:0<=b)(hc:h.obj vc=some (aN [I q,I b,oe] 3 27))(ho:h.obj vo=some (aN (cf (o,xa)) 7 49))
  (hK:dr.fq W QR QN QE QP (.ptr vc 0) (.ptr vo 0) (B (yf b o)) h):dr.Py W QR QN QE QP (.ptr vc 0) (.ptr vo 0) h:=by
 have f1:dr.tQ W QR QN QE QP (.ptr vc 0) (.ptr vo 0) (B (o.kind==1||o.kind==2||o.kind==3)) h:=O0 hb hc (OY ho hK)
 revert f1
 cases k1:(o.kind==1)<;>cases k2:(o.kind==2)<;>cases k3:(o.kind==3)<;>intro f1<;>simp[-dr.tQ]at f1<;>simp[-dr.tQ,ho,cf,k1,k2,k3]<;>exact f1
end
section
variable {M:Nat->Prop} {R:AE->AH->Prop} {h:AH}
theorem NR{q b:Int}{oe:AV}{y:dS×AV}(hb:0<=b)(hx:cG oe=true/\cM oe=some [oe])(hq:cH cq 1 3 h y.2 y.1.aI)(hl:y.1.aI.length<=9000000000000000000)
  (hR:∀h',Fr h h' (fun _=>False)->R (.ret (I (oQ q b y.1))) h'):aE Pg 25 [.agg [I q,I b,oe],.agg (cf y)] h M R:=by
 apply dr.aM
 unfold dr.Kk
 refine dB (by show(true&&(true&&(cG oe&&true)))=true;rw[hx.1];rfl) fun vc h1 f1 Dj oc=>?_
 refine dB (jU hq.one.1) fun vo h2 f2 Fa oo=>?_
 have cw:=f1.bX f2
 have XP:=f2.bM oc
 obtain⟨o,xa⟩:=y
 refine LY hb XP oo ?_
 have fin:∀c:Bool,c=yf b o->dr.fq (fun id=>M id\/h.next<=id) (aJ Pg [.tmp 4] R) (aJ Pg [.tmp 4] R) (fun _ _ _=>False) (fun v h=>R (.cg v) h) (.ptr vc 0) (.ptr vo 0) (B c) h2:=fun c qE=>by
  unfold oQ at hR
  rw[<-qE]at hR
  cases c with
  |true=>simpa[dr.fq] using hR h2 cw
  |false=>
   simp only[dr.fq,aj,zE,zC,zD,zH]
   refine OX XP oo (hq.aU cw) hl fun h3 f3=>?_
   simpa[pF] using hR h3 (cw.bX f3)
 exact fin _ rfl
theorem GN{y:dS×AV}(hq:cG y.2=true)(hR:∀h',Fr h h' (fun _=>False)->R (.ret (I (if y.1.kind=1 then jv y.1.name else 0))) h'):aE Pg 26 [.agg (cf y)] h M R:=by
 apply H5.aM
 unfold H5.n5
 refine dB (jU hq) fun vo h1 f1 Dj oo=>?_
 obtain⟨o,xa⟩:=y
 by_cases k:o.kind=1
 ·simp only[zX k]at hR
  have k':(o.kind != 1)=false:=by simp[k]
  simp only[H5.n4,ag,au,oo,ao,zG,cf,zB,zA,ab,b5,k',H5.n3,aj,zE,zC,zD,zH,H5.n1]
  refine⟨fun _=>False,fun _ h=>h.elim,KY fun h2 f2=>?_⟩
  simpa using hR h2 (f1.bX f2)
 ·simp only[zW k]at hR
  have k':(o.kind != 1)=true:=by simp[k]
  have:=hR h1 f1
  simpa[oo,cf,k'] using this
end
end
section
open Go.Ab
attribute [-simp] aX aF
structure kz (h:AH) (x:AV) (l:List (dS×AV)):Prop where
 fc:cH cf 7 49 h x l
 qs:∀y∈l,cH cq 1 3 h y.2 y.1.aI
theorem kz.aU{h h':AH}{x:AV}{l:List (dS×AV)}(a:kz h x l)(hf:Fr h h' fun _=>False):kz h' x l:=⟨a.fc.aU hf,fun y hy=>(a.qs y hy).aU hf⟩
def gK(o:dS):Int:=if o.kind=1 then jv o.name else 0
def iF(q b:Int):List dS->Nat->Int->Int×Int
 |[],_,_=>(0,0)
 |o::l,i,n=>if oQ q b o≠0 then(i,oQ q b o) else if 36<n+gK o then(i,116) else iF q b l (i+1) (n+gK o)
def gQ(q b:Int)(l:List dS):Int×Int:=if q<0\/64<q\/b<0\/64<b then(0,2) else if 4096<l.length then(0,115) else iF q b l 0 0
theorem IW(n:ByteArray):0<=jv n/\jv n<=1:=by
 unfold jv
 split
 ·rename_i x hx
  have h1:=List.mem_of_find?_eq_some hx
  have key:∀x∈lO,0<=x.2.2/\x.2.2<=1:=by decide +kernel
  exact key x h1
 ·omega
theorem Bx(o:dS):0<=gK o/\gK o<=1:=by
 unfold gK
 split
 ·exact IW _
 ·omega
section
variable {W:Nat->Prop} {QR QN:VK} {QE:Nat->VK} {QP:AV->AH->Prop} {h:AH} {vc:Nat} {q b:Int} {x:AV} {l:List (dS×AV)}
abbrev Cc(r:Int×Int):List AV:=[I r.1,I r.2]
theorem O9(hW:∀id,h.next<=id->W id)(hb:0<=b)(hc:h.obj vc=some (aN [I q,I b,x] 3 27))(hx:kz h x l)(hl:l.length<=4096)(p5:∀y∈l,y.1.aI.length<=9000000000000000000)
  (hR:∀h',Fr h h' (fun _=>False)->QR (Cc (iF q b (l.map (·.1)) 0 0)) h'):mc.bC W QR QN QE QP (.ptr vc 0) (I 0) h:=by
 unfold mc.bC
 simp only[ag,au,hc,ao,zG,zB,zA,ab,hx.fc.len.1,hx.fc.len.2,zH]
 unfold mc.bD
 refine bU (ι:=Nat×Int) (fun z v h'=>v=[.ptr vc 0,I z.2,x,I l.length,I z.1]/\z.1<=l.length/\Fr h h' (fun _=>False)/\0<=z.2/\z.2<=36/\iF q b ((l.drop z.1).map (·.1)) z.1 z.2=iF q b (l.map (·.1)) 0 0) (fun z=>l.length-z.1) (0,0) ⟨rfl,by simp,Fr.refl,by simp,by simp,by simp⟩ ?_
 rintro K ⟨i,n⟩ v h' ⟨rfl,hi,hf,yI,jS,he⟩ hK
 simp only at hi yI jS he hK
 simp only[mc.cB,zN,zO]
 by_cases aR:i<l.length
 ·have eh:(i:Int)<l.length:=by omega
  have g1:l[i]?=some l[i]:=zJ aR
  have w1:IntKind.i64.wrap ((i:Int)+1)=((i+1:Nat):Int):=by rw[aS (by omega) (by omega)];simp
  have Hk:=hx.qs _ (List.getElem_mem aR)
  have Bh:=p5 _ (List.getElem_mem aR)
  rw[List.drop_eq_getElem_cons aR,List.map_cons]at he
  simp only[iF]at he
  generalize l[i]=y at *
  simp only[mc.bt,aZ,zL eh,mc.bc,aj,zD,zF,zC,zI]
  unfold mc.a_
  refine fV (hx.fc.aU hf) eW (jU Hk.one.1) g1 rfl rfl (fun id hid=>hW id (zR hf.next hid)) fun vn h1 f1 rM ov=>?_
  have HF:=hf.bX f1
  unfold mc.aQ
  refine di (HF.bM hc) rfl fun _=>?_
  refine di ov rfl fun _=>?_
  refine⟨fun _=>False,fun _ h=>h.elim,NR hb hx.fc.one (Hk.aU HF) Bh fun h2 f2=>?_⟩
  have cw:=HF.bX f2
  by_cases k:oQ q b y.1=0
  ·rw[zW (by simpa using k)]at he
   have k':(oQ q b y.1 != 0)=false:=by simp[k]
   simp only[mc.n9,b5,k',mc.n8,aj,zE,zC,zD,zH]
   unfold mc.n6
   refine di (f2.bM ov) rfl fun _=>?_
   refine⟨fun _=>False,fun _ h=>h.elim,GN Hk.one.1 fun h3 f3=>?_⟩
   have dR:=cw.bX f3
   have hh:=Bx y.1
   have wn:IntKind.i64.wrap (n+gK y.1)=n+gK y.1:=aS (by omega) (by omega)
   show ah _ _ _ _ (I n) (I (gK y.1)) _
   simp only[aT,wn,mc.n5,eU]
   by_cases k2:36<n+gK y.1
   ·rw[zX k2]at he
    have:=hR h3 dR
    rw[<-he]at this
    simp only[gt_iff_lt,zL k2,mc.n4,aj,zD,zF,zC,zI]
    exact this
   ·rw[zW k2]at he
    simp only[gt_iff_lt,zK k2,mc.n4,aj,zD,zE,zC,zH,mc.n2,aT,w1]
    exact hK (i+1,n+gK y.1) _ _ (by simp only;omega) ⟨rfl,by simp only;omega,dR,by simp only;omega,by simp only;omega,he⟩
  ·rw[zX k]at he
   have k':(oQ q b y.1 != 0)=true:=by simp[k]
   have:=hR h2 cw
   rw[<-he]at this
   simp only[mc.n9,b5,k',mc.n8,aj,zD,zF,zC,zI]
   exact this
 ·have dA:¬(i:Int)<l.length:=by omega
  rw[List.drop_of_length_le (by omega)]at he
  have:=hR h' hf
  rw[<-he]at this
  simpa[dA,iF] using this
end
section
variable {M:Nat->Prop} {R:AE->AH->Prop} {h:AH}
theorem Og{q b:Int}{x:AV}{l:List (dS×AV)}(hx:kz h x l)(p5:∀y∈l,y.1.aI.length<=9000000000000000000)
  (hR:∀h',Fr h h' (fun _=>False)->R (.ret (.dY (Cc (gQ q b (l.map (·.1)))))) h'):aE Pg 13 [.agg [I q,I b,x]] h M R:=by
 apply mc.aM
 unfold mc.cz
 refine dB (by show(true&&(true&&(cG x&&true)))=true;rw[hx.fc.one.1];rfl) fun vc h1 f1 Dj oc=>?_
 unfold gQ at hR
 by_cases k1:q<0
 ·have:=hR h1 f1
  rw[zX (.inl k1)]at this
  simpa[oc,k1] using this
 by_cases k2:64<q
 ·have:=hR h1 f1
  rw[zX (.inr (.inl k2))]at this
  simpa[oc,k1,k2] using this
 by_cases k3:b<0
 ·have:=hR h1 f1
  rw[zX (.inr (.inr (.inl k3)))]at this
  simpa[oc,k1,k2,k3] using this
 by_cases k4:64<b
 ·have:=hR h1 f1
  rw[zX (.inr (.inr (.inr k4)))]at this
  simpa[oc,k1,k2,k3,k4] using this
 rw[zW (by omega),zZ]at hR
 simp[-mc.bQ,oc,k1,k2,k3,k4]
 unfold mc.bQ
 simp only[ag,au,oc,ao,zG,zB,zA,ab,hx.fc.len.1,hx.fc.len.2,zH,eU,gt_iff_lt]
 by_cases k5:4096<l.length
 ·have:=hR h1 f1
  rw[zX k5]at this
  have E3:(4096:Int)<l.length:=by omega
  simpa[E3] using this
 ·rw[zW k5]at hR
  have E3:¬(4096:Int)<l.length:=by omega
  simp only[zK E3,mc.bO,aj,zE,zC,zD,zH,mc.bz]
  exact O9 (fun id hid=>.inr (zR f1.next hid)) (by omega) oc (hx.aU f1) (by omega) p5 fun h2 f2=>hR h2 (f1.bX f2)
end
end
section
open Go.Ab
attribute [-simp] aX aF
def nY(x n:Int):Bool:=decide (n<64)&&(x.fdiv (2^(min (IntKind.u64.wrap n).toNat IntKind.u64.bits)) != 0)
def tK(b:Int)(o:dS):Bool:=(decide (o.kind<1)||decide (3<o.kind))||(!o.cond&&(o.cN != 0||o.value != 0))||(o.cond&&(o.cN==0||nY o.cN b||lS o.value o.cN != 0))||k_ o
def oP(q b:Int)(o:dS):Int:=if tK b o then 120 else if o.kind=1/\cu o.name=0 then 80 else if (o.aI.length:Int)≠ET o then 111 else pF q b o
section
variable {M:Nat->Prop} {R:AE->AH->Prop} {h:AH}
theorem LB{x n:Int}(hn:0<=n)(hR:R (.ret (B (nY x n))) h):aE Pg 83 [U x,I n] h M R:=by
 apply YM.aM
 unfold nY at hR
 have hw:0<=IntKind.u64.wrap n:=by
  rw[IntKind.wrap_u64];omega
 by_cases k:n<64
 ·rw[zL k]at hR
  simp[ah,k,hw]
  simpa using hR
 ·rw[zK k]at hR
  simpa[ah,k] using hR
end
section
variable {W:Nat->Prop} {QR QN:VK} {QE:Nat->VK} {QP:AV->AH->Prop} {h:AH} {vo:Nat} {q b:Int} {xa:AV} {o:dS}
theorem OF(ho:h.obj vo=some (aN (cf (o,xa)) 7 49))(hR:QR [I (if k_ o then 120 else 0)] h):lK.aQ W QR QN QE QP (.ptr vo 0) h:=by
 have fin:∀c:Bool,c=k_ o->lK.n3 W QR QN QE QP (B c) h:=fun c qE=>by
  rw[<-qE]at hR
  cases c<;>simpa[lK.n3] using hR
 have f1:=fin _ rfl
 unfold k_ at f1
 have e0:(⟨#[]⟩:ByteArray)=ByteArray.empty:=rfl
 revert f1
 cases k1:(o.kind==1)<;>by_cases k2:o.name=ByteArray.empty<;>cases k3:(o.kind==2)<;>cases k4:(o.bit==0)<;>intro f1 <;>
  simp[-lK.n3,bne,k1,k2,k3,k4]at f1<;>simp[-lK.n3,bne,ho,cf,k1,k2,k3,k4,e0]<;>exact f1
theorem OH(hb:0<=b)(ho:h.obj vo=some (aN (cf (o,xa)) 7 49))(hR:∀h',Fr h h' (fun _=>False)->QR [I (if (!o.cond&&(o.cN != 0||o.value != 0))||(o.cond&&(o.cN==0||nY o.cN b||lS o.value o.cN != 0))||k_ o then 120 else 0)] h') :
  lK.cl W QR QN QE QP (I b) (.ptr vo 0) h:=by
 have fin:∀h1,Fr h h1 (fun _=>False)->∀c:Bool,(!o.cond&&(o.cN != 0||o.value != 0))=false->c=(o.cond&&(o.cN==0||nY o.cN b||lS o.value o.cN != 0))->lK.bc W QR QN QE QP (.ptr vo 0) (B c) h1:=fun h1 f1 c h0 qE=>by
  rw[h0,<-qE]at hR
  cases c with
  |true=>simpa[lK.bc] using hR h1 f1
  |false=>
   simp only[lK.bc,aj,zE,zC,zD,zH]
   exact OF (f1.bM ho) (by simpa using hR h1 f1)
 cases k1:o.cond with
 |false=>
  have Fv:=hR h Fr.refl
  rw[k1]at Fv fin
  have fin:=fin h Fr.refl false
  revert Fv fin
  cases k2:(o.cN==0)<;>cases k3:(o.value==0)<;>intro Fv fin<;>simp[-lK.bc,bne,k2,k3]at Fv fin<;>simp[-lK.bc,bne,ho,cf,k1,k2,k3]<;>first |exact fin |exact Fv
 |true=>
  have Fv:=hR h Fr.refl
  rw[k1]at Fv fin
  cases k2:(o.cN==0) with
  |true=>
   have fin:=fin h Fr.refl true
   simp[-lK.bc,k2]at fin
   simp[-lK.bc,ho,cf,k1,k2]
   exact fin
  |false=>
   simp[-lK.bc,-lK.bz,ho,cf,k1,k2]
   refine⟨fun _=>False,fun _ h=>h.elim,LB hb ?_⟩
   have fin:=fin h Fr.refl
   cases k3:nY o.cN b with
   |true=>
    have fin:=fin true
    simp[-lK.bc,k2,k3]at fin
    simp[-lK.bc,ho,cf,k1,k2]
    exact fin
   |false=>
    cases k4:(lS o.value o.cN==0) with
    |true=>
     have fin:=fin false
     simp[-lK.bc,bne,k2,k3,k4]at fin
     simp[-lK.bc,bne,ho,cf,k1,k2,wG,k4]
     exact fin
    |false=>
     have fin:=fin true
     simp[-lK.bc,bne,k2,k3,k4]at fin
     simp[-lK.bc,bne,ho,cf,k1,k2,wG,k4]
     exact fin
end
section
variable {M:Nat->Prop} {R:AE->AH->Prop} {h:AH}
theorem Mu{b:Int}{y:dS×AV}(hb:0<=b)(hq:cG y.2=true)(hR:∀h',Fr h h' (fun _=>False)->R (.ret (I (if tK b y.1 then 120 else 0))) h'):aE Pg 56 [.agg (cf y),I b] h M R:=by
 apply lK.aM
 unfold lK.cT
 refine dB (jU hq) fun vo h1 f1 Dj oo=>?_
 obtain⟨o,xa⟩:=y
 unfold tK at hR
 have Qs:=hR h1 f1
 by_cases k1:o.kind<1
 ·simp[k1]at Qs
  simpa[oo,cf,k1] using Qs
 ·by_cases k2:3<o.kind
  ·simp[k2]at Qs
   simpa[oo,cf,k1,k2] using Qs
  ·simp[-lK.cl,oo,cf,k1,k2]
   refine OH hb oo fun h2 f2=>?_
   have:=hR h2 (f1.bX f2)
   simpa[k1,k2] using this
end
end
section
open Go.Ab
attribute [-simp] aX aF
theorem Km{l:List Int}{i k:Nat}(hk:k<i)(hi:i<l.length)(h:l[i]=l[k]'(by omega)):eV l[i] (l.take i)=true:=by
 unfold eV
 cases hx:fQ l[i] (l.take i) 0 with
 |some _=>rfl
 |none=>
  have:=Dh hx
  refine absurd ?_ this
  rw[h]
  exact List.mem_iff_getElem.2 ⟨k,by rw[yA];omega,by rw[List.getElem_take]⟩
theorem Ry{l:List Int}{i:Nat}(hi:i<l.length)(h:∀k (hk:k<i),¬l[i]=l[k]'(by omega)):eV l[i] (l.take i)=false:=by
 unfold eV
 cases hx:fQ l[i] (l.take i) 0 with
 |none=>rfl
 |some j=>
  have:=(wS hx).2
  obtain⟨k,hk,he⟩:=List.mem_iff_getElem.1 this
  rw[yA]at hk
  rw[List.getElem_take]at he
  exact absurd he.symm (h k (by omega))
section
variable {W:Nat->Prop} {QR QN:VK} {QE:Nat->VK} {QP:AV->AH->Prop} {h:AH} {vo:Nat} {q b:Int} {xa:AV} {o:dS}
theorem Ss(ho:h.obj vo=some (aN (cf (o,xa)) 7 49))(hq:cH cq 1 3 h xa o.aI)(hl:o.aI.length<=9000000000000000000)
  (hR:QR [I (if rS o.aI then 113 else 0)] h):eA.bD W QR QN QE QP (.ptr vo 0) (I o.aI.length) h:=by
 unfold eA.bD eA.bt
 refine bU (ι:=Nat) (fun i v h'=>v=[.ptr vo 0,I o.aI.length,I i]/\i<=o.aI.length/\h'=h/\∀j (hj:j<o.aI.length),j<i->eV o.aI[j] (o.aI.take j)=false) (fun i=>o.aI.length-i) 0 ⟨rfl,by omega,rfl,fun j _ h=>by omega⟩ ?_
 rintro K i v h' ⟨rfl,hi,rfl,hb⟩ hK
 simp only[eA.cB,zN,zO]
 by_cases aR:i<o.aI.length
 ·have eh:(i:Int)<o.aI.length:=by omega
  simp only[eA.bc,aZ,zL eh,eA.a_,aj,zD,zF,zC,zI,eA.aQ]
  unfold eA.n9
  refine bU (ι:=Nat) (fun k v h2=>v=[.ptr vo 0,I o.aI.length,I i,I k]/\k<=i/\h2=h'/\∀j (hj:j<k) (_:j<i),¬o.aI[i]=o.aI[j]'(by omega)) (fun k=>i-k) 0 ⟨rfl,by omega,rfl,fun j h=>by omega⟩ ?_
  rintro K2 k v h2 ⟨rfl,hk,rfl,hn⟩ hK2
  simp only[eA.fY,zN,zO]
  by_cases qa:k<i
  ·have Nr:(k:Int)<i:=by omega
   have g1:o.aI[i]?=some o.aI[i]:=zJ aR
   have g2:o.aI[k]?=some (o.aI[k]'(by omega)):=zJ (by omega)
   have w1:IntKind.i64.wrap ((k:Int)+1)=((k+1:Nat):Int):=by rw[aS (by omega) (by omega)];simp
   simp only[eA.n8,aZ,zL Nr,eA.n7,aj,zD,zF,zC,zI,eA.n6,ag,au,ho,ao,zG,cf,zB,zA,ab]
   refine gZ hq eX g1 rfl fun _=>?_
   refine gZ hq eX g2 rfl fun _=>?_
   rw[eG]
   by_cases e:o.aI[i]=o.aI[k]
   ·rw[Lq aR (Km qa aR e)]at hR
    simp only[beq_iff_eq.2 e,eA.n5,aj,zD,zF,zC,zI]
    exact hR
   ·simp only[beq_eq_false_iff_ne.2 e,eA.n5,aj,zE,zD,zC,zH,eA.n3,aT,w1]
    refine hK2 (k+1) _ _ (by omega) ⟨rfl,by omega,rfl,fun j hj lH=>?_⟩
    rcases Nat.lt_succ_iff_lt_or_eq.1 hj with h1 |h1
    ·exact hn j h1 lH
    ·subst h1;exact e
  ·have Nr:¬(k:Int)<i:=by omega
   have w1:IntKind.i64.wrap ((i:Int)+1)=((i+1:Nat):Int):=by rw[aS (by omega) (by omega)];simp
   have hm:=Ry aR (fun j hj=>hn j (by omega) hj)
   simp only[eA.n8,aZ,zK Nr,eA.n7,aj,zD,zE,zC,zH,zV,eA.n2,aT,w1,zN,zO]
   refine hK (i+1) _ _ (by omega) ⟨rfl,by omega,rfl,fun j hj lH=>?_⟩
   rcases Nat.lt_succ_iff_lt_or_eq.1 lH with h1 |h1
   ·exact hb j hj h1
   ·subst h1;exact hm
 ·have dA:¬(i:Int)<o.aI.length:=by omega
  rw[Lp fun j hj=>hb j hj (by omega)]at hR
  simpa[dA] using hR
theorem Su(ho:h.obj vo=some (aN (cf (o,xa)) 7 49))(hq:cH cq 1 3 h xa o.aI)(hl:o.aI.length<=9000000000000000000)
  (hR:QR [I (if o.kind=2/\(o.bit<0\/b<=o.bit) then 112 else if rS o.aI then 113 else 0)] h):eA.cp W QR QN QE QP (I b) (.ptr vo 0) (I o.aI.length) h:=by
 have fin:∀c:Bool,c=decide (o.kind=2/\(o.bit<0\/b<=o.bit))->eA.bz W QR QN QE QP (.ptr vo 0) (I o.aI.length) (B c) h:=fun c qE=>by
  cases c with
  |true=>
   rw[zX (of_decide_eq_true qE.symm)]at hR
   simpa[eA.bz] using hR
  |false=>
   rw[zW (of_decide_eq_false qE.symm)]at hR
   simp only[eA.bz,aj,zE,zC,zD,zH]
   exact Ss ho hq hl hR
 have f1:=fin _ rfl
 by_cases k1:o.kind=2
 ·by_cases k2:o.bit<0
  ·simp[-eA.bz,k1,k2]at f1
   simp[-eA.bz,ho,cf,k1,k2]
   exact f1
  ·by_cases k3:b<=o.bit
   ·simp[-eA.bz,k1,k2,k3]at f1
    simp[-eA.bz,ho,cf,k1,k2,k3]
    exact f1
   ·simp[-eA.bz,k1,k2,k3]at f1
    simp[-eA.bz,ho,cf,k1,k2,k3]
    exact f1
 ·simp[-eA.bz,k1]at f1
  have eK:(o.kind==2)=false:=by simpa using k1
  simp[-eA.bz,ho,cf,eK]
  exact f1
theorem Sr(ho:h.obj vo=some (aN (cf (o,xa)) 7 49))(hq:cH cq 1 3 h xa o.aI)(hl:o.aI.length<=9000000000000000000)
  (hR:QR [I (pF q b o)] h):eA.da W QR QN QE QP (I q) (I b) (.ptr vo 0) (I o.aI.length) h:=by
 unfold pF at hR
 unfold eA.da eA.cK
 refine bU (ι:=Nat) (fun i v h'=>v=[I q,I b,.ptr vo 0,I o.aI.length,I i]/\i<=o.aI.length/\h'=h/\∀j (hj:j<o.aI.length),j<i->¬(o.aI[j]<0\/q<=o.aI[j])) (fun i=>o.aI.length-i) 0 ⟨rfl,by omega,rfl,fun j _ h=>by omega⟩ ?_
 rintro K i v h' ⟨rfl,hi,rfl,hb⟩ hK
 simp only[eA.kV,zN,zO]
 by_cases aR:i<o.aI.length
 ·have eh:(i:Int)<o.aI.length:=by omega
  have g1:o.aI[i]?=some o.aI[i]:=zJ aR
  have w1:IntKind.i64.wrap ((i:Int)+1)=((i+1:Nat):Int):=by rw[aS (by omega) (by omega)];simp
  have key:=fun hh=>Kb (q:=q) (l:=o.aI) aR hh
  have qF:¬(o.aI[i]<0\/q<=o.aI[i])->∀j (hj:j<o.aI.length),j<i+1->¬(o.aI[j]<0\/q<=o.aI[j]):=fun h0 j hj lH=>by
   rcases Nat.lt_succ_iff_lt_or_eq.1 lH with h1 |h1
   ·exact hb j hj h1
   ·subst h1;exact h0
  generalize o.aI[i]=y at *
  simp only[eA.cz,aZ,zL eh,eA.cy,aj,zD,zF,zC,zI,eA.bV,ag,au,ho,ao,zG,cf,zB,zA,ab]
  refine gZ hq eX g1 rfl fun _=>?_
  by_cases k1:y<0
  ·rw[key (.inl k1)]at hR
   simp[eA.cl,eA.cj,eA.cn,k1]
   simpa using hR
  ·simp only[aZ,zK k1,eA.cl,ck,zT,zE,zD,zC,zI,ag,au,ho,ao,zG,cf,zB,zA,ab]
   refine gZ hq eX g1 rfl fun _=>?_
   by_cases k2:q<=y
   ·rw[key (.inr k2)]at hR
    simp[eA.cj,eA.cn,k2]
    simpa using hR
   ·simp[eA.cj,eA.cn,k2,w1]
    exact hK (i+1) _ _ (by omega) ⟨rfl,by omega,rfl,qF (by omega)⟩
 ·have dA:¬(i:Int)<o.aI.length:=by omega
  rw[Ka fun j hj=>hb j hj (by omega)]at hR
  simp[-eA.cp,dA]
  exact Su ho hq hl (by simpa using hR)
theorem H4(ho:h.obj vo=some (aN (cf (o,xa)) 7 49))(hq:cH cq 1 3 h xa o.aI)(hl:o.aI.length<=9000000000000000000){n:Int}
  (hR:QR [I (if (o.aI.length:Int)≠n then 111 else pF q b o)] h):eA.dW W QR QN QE QP (I q) (I b) (.ptr vo 0) (I n) h:=by
 unfold eA.dW
 simp only[ag,au,ho,ao,zG,cf,zB,zA,ab,hq.len.1,hq.len.2,zH,b5,pq]
 by_cases k:(o.aI.length:Int)=n
 ·rw[zW (by simpa using k)]at hR
  rw[zL k]
  simp only[eA.dx,aj,zS,zE,zC,zD,zH]
  rw[<-k]
  exact Sr ho hq hl hR
 ·rw[zX k]at hR
  rw[zK k]
  simpa[eA.dx] using hR
theorem OV(ho:h.obj vo=some (aN (cf (o,xa)) 7 49))(hq:cH cq 1 3 h xa o.aI)(hl:o.aI.length<=9000000000000000000)
  (hR:QR [I (if o.kind=1/\cu o.name=0 then 80 else if (o.aI.length:Int)≠ET o then 111 else pF q b o)] h):eA.dL W QR QN QE QP (I q) (I b) (.ptr vo 0) h:=by
 unfold eA.dL eA.d_
 simp only[ag,au,ho,ao,zG,cf,zB,zA,ab,eG]
 unfold ET at hR
 by_cases k:o.kind=1
 ·have k':(o.kind==1)=true:=by simpa using k
  rw[k']
  simp only[eA.dF,aj,zF,zC,zD,zI,eA.eJ,ag,au,ho,ao,zG,cf,zB,zA,ab]
  refine⟨fun _=>False,fun _ h=>h.elim,nc ?_⟩
  by_cases k2:cu o.name=0
  ·rw[zX ⟨k,k2⟩]at hR
   simpa[eA.ed,eA.dV,k2] using hR
  ·rw[zW (fun h=>k2 h.2),zX k]at hR
   have T4:(cu o.name==0)=false:=by simpa using k2
   simp only[eA.ed,eG,T4,eA.dV,aj,zE,zC,zD,zH]
   exact H4 ho hq hl hR
 ·have k':(o.kind==1)=false:=by simpa using k
  rw[k']
  rw[zW (fun h=>k h.1),zW k]at hR
  simp only[eA.dF,aj,zE,zC,zD,zH]
  exact H4 ho hq hl hR
end
section
variable {M:Nat->Prop} {R:AE->AH->Prop} {h:AH}
theorem GL{q b:Int}{y:dS×AV}(hb:0<=b)(hq:cH cq 1 3 h y.2 y.1.aI)(hl:y.1.aI.length<=9000000000000000000)
  (hR:∀h',Fr h h' (fun _=>False)->R (.ret (I (oP q b y.1))) h'):aE Pg 36 [.agg (cf y),I q,I b] h M R:=by
 apply eA.aM
 unfold eA.fg
 refine dB (jU hq.one.1) fun vo h1 f1 Dj oo=>?_
 unfold eA.e_
 refine di oo rfl fun _=>?_
 refine⟨fun _=>False,fun _ h=>h.elim,Mu hb hq.one.1 fun h2 f2=>?_⟩
 have cw:=f1.bX f2
 obtain⟨o,xa⟩:=y
 have hR:=hR h2 cw
 unfold oP at hR
 cases k:tK b o with
 |true=>
  rw[k]at hR
  simp at hR
  simp[eA.dO,eA.eu]
  exact hR
 |false=>
  rw[k]at hR
  simp only[zE,if_false]at hR
  simp only[zE,if_false,eA.dO,b5,bne_self_eq_false,eA.eu,aj,zC,zD,zH]
  exact OV (f2.bM oo) (hq.aU cw) hl (by simpa using hR)
theorem Ce{y:dS×AV}(hq:cG y.2=true)(hR:∀h',Fr h h' (fun _=>False)->R (.ret (I (gK y.1))) h'):aE Pg 37 [.agg (cf y)] h M R:=by
 apply H3.aM
 unfold H3.n5
 refine dB (jU hq) fun vo h1 f1 Dj oo=>?_
 obtain⟨o,xa⟩:=y
 unfold gK at hR
 by_cases k:o.kind=1
 ·simp only[zX k]at hR
  have k':(o.kind==1)=true:=by simp[k]
  simp only[H3.n4,ag,au,oo,ao,zG,cf,zB,zA,ab,eG,k',H3.n3,aj,zF,zC,zD,zI,H3.n2]
  refine⟨fun _=>False,fun _ h=>h.elim,EG ?_⟩
  simpa using hR h1 f1
 ·simp only[zW k]at hR
  have k':(o.kind==1)=false:=by simp[k]
  have:=hR h1 f1
  simpa[oo,cf,k'] using this
end
end
section
open Go.Ab
attribute [-simp] aX aF
def lu(q b:Int):List dS->Nat->Int->Int×Int
 |[],_,_=>(0,0)
 |o::l,i,n=>if oP q b o≠0 then(i,oP q b o) else if 36<n+gK o then(i,116) else lu q b l (i+1) (n+gK o)
def BS(q b:Int)(l:List dS):Int×Int:=if q<0\/64<q\/b<0\/64<b then(0,2) else if 4096<l.length then(0,115) else lu q b l 0 0
section
variable {W:Nat->Prop} {QR QN:VK} {QE:Nat->VK} {QP:AV->AH->Prop} {h:AH} {vc:Nat} {q b:Int} {x:AV} {l:List (dS×AV)}
theorem O5(hb:0<=b)(hc:h.obj vc=some (aN [I q,I b,x] 3 27))(hx:kz h x l)(hl:l.length<=4096)(p5:∀y∈l,y.1.aI.length<=9000000000000000000)
  (hR:∀h',Fr h h' (fun _=>False)->QR (Cc (lu q b (l.map (·.1)) 0 0)) h'):mA.bC W QR QN QE QP (.ptr vc 0) h:=by
 unfold mA.bC mA.bD mA.bt
 refine bU (ι:=Nat×Int) (fun z v h'=>v=[.ptr vc 0,I z.2,I z.1]/\z.1<=l.length/\Fr h h' (fun _=>False)/\0<=z.2/\z.2<=36/\lu q b ((l.drop z.1).map (·.1)) z.1 z.2=lu q b (l.map (·.1)) 0 0) (fun z=>l.length-z.1) (0,0) ⟨rfl,by simp,Fr.refl,by simp,by simp,by simp⟩ ?_
 rintro K ⟨i,n⟩ v h' ⟨rfl,hi,hf,yI,jS,he⟩ hK
 simp only at hi yI jS he hK
 simp only[mA.cB,zN,zO]
 have tY:=hf.bM hc
 simp only[mA.bc,ag,au,tY,ao,zG,zB,zA,ab,hx.fc.len.1,hx.fc.len.2,zH]
 by_cases aR:i<l.length
 ·have eh:(i:Int)<l.length:=by omega
  have g1:l[i]?=some l[i]:=zJ aR
  have w1:IntKind.i64.wrap ((i:Int)+1)=((i+1:Nat):Int):=by rw[aS (by omega) (by omega)];simp
  have Hk:=hx.qs _ (List.getElem_mem aR)
  have Bh:=p5 _ (List.getElem_mem aR)
  rw[List.drop_eq_getElem_cons aR,List.map_cons]at he
  simp only[lu]at he
  generalize l[i]=y at *
  simp only[aZ,zL eh,mA.a_,aj,zD,zF,zC,zI,mA.aQ,ag,au,tY,ao,zG,zB,zA,ab]
  refine gO (hx.fc.aU hf) eW g1 fun _=>?_
  refine⟨fun _=>False,fun _ h=>h.elim,GL hb (Hk.aU hf) Bh fun h2 f2=>?_⟩
  have cw:=hf.bX f2
  by_cases k:oP q b y.1=0
  ·rw[zW (by simpa using k)]at he
   have k':(oP q b y.1 != 0)=false:=by simp[k]
   simp only[mA.n9,b5,k',mA.n8,aj,zE,zC,zD,zH,mA.n6,ag,au,f2.bM tY,ao,zG,zB,zA,ab]
   refine gO (hx.fc.aU cw) eW g1 fun _=>?_
   refine⟨fun _=>False,fun _ h=>h.elim,Ce Hk.one.1 fun h3 f3=>?_⟩
   have dR:=cw.bX f3
   have hh:=Bx y.1
   have wn:IntKind.i64.wrap (n+gK y.1)=n+gK y.1:=aS (by omega) (by omega)
   simp only[aT,wn,mA.n5,eU]
   by_cases k2:36<n+gK y.1
   ·rw[zX k2]at he
    have:=hR h3 dR
    rw[<-he]at this
    simp only[gt_iff_lt,zL k2,mA.n4,aj,zD,zF,zC,zI]
    exact this
   ·rw[zW k2]at he
    simp only[gt_iff_lt,zK k2,mA.n4,aj,zD,zE,zC,zH,mA.n2,aT,w1]
    exact hK (i+1,n+gK y.1) _ _ (by simp only;omega) ⟨rfl,by simp only;omega,dR,by simp only;omega,by simp only;omega,he⟩
  ·rw[zX k]at he
   have k':(oP q b y.1 != 0)=true:=by simp[k]
   have:=hR h2 cw
   rw[<-he]at this
   simp only[mA.n9,b5,k',mA.n8,aj,zD,zF,zC,zI]
   exact this
 ·have dA:¬(i:Int)<l.length:=by omega
  rw[List.drop_of_length_le (by omega)]at he
  have:=hR h' hf
  rw[<-he]at this
  simpa[dA,lu] using this
end
section
variable {M:Nat->Prop} {R:AE->AH->Prop} {h:AH}
theorem GM{q b:Int}{x:AV}{l:List (dS×AV)}(hx:kz h x l)(p5:∀y∈l,y.1.aI.length<=9000000000000000000)
  (hR:∀h',Fr h h' (fun _=>False)->R (.ret (.dY (Cc (BS q b (l.map (·.1)))))) h'):aE Pg 19 [.agg [I q,I b,x]] h M R:=by
 apply mA.aM
 unfold mA.cy
 refine dB (by show(true&&(true&&(cG x&&true)))=true;rw[hx.fc.one.1];rfl) fun vc h1 f1 Dj oc=>?_
 unfold BS at hR
 by_cases k1:q<0
 ·have:=hR h1 f1
  rw[zX (.inl k1)]at this
  simpa[oc,k1] using this
 by_cases k2:64<q
 ·have:=hR h1 f1
  rw[zX (.inr (.inl k2))]at this
  simpa[oc,k1,k2] using this
 by_cases k3:b<0
 ·have:=hR h1 f1
  rw[zX (.inr (.inr (.inl k3)))]at this
  simpa[oc,k1,k2,k3] using this
 by_cases k4:64<b
 ·have:=hR h1 f1
  rw[zX (.inr (.inr (.inr k4)))]at this
  simpa[oc,k1,k2,k3,k4] using this
 rw[zW (by omega),zZ]at hR
 simp[-mA.bO,oc,k1,k2,k3,k4]
 unfold mA.bO
 simp only[ag,au,oc,ao,zG,zB,zA,ab,hx.fc.len.1,hx.fc.len.2,zH,eU,gt_iff_lt]
 by_cases k5:4096<l.length
 ·have:=hR h1 f1
  rw[zX k5]at this
  have E3:(4096:Int)<l.length:=by omega
  simpa[E3] using this
 ·rw[zW k5]at hR
  have E3:¬(4096:Int)<l.length:=by omega
  simp only[zK E3,mA.bH,aj,zE,zC,zD,zH]
  exact O5 (by omega) oc (hx.aU f1) (by omega) p5 fun h2 f2=>hR h2 (f1.bX f2)
end
def HX(o:dS):Prop:=0<=o.cN/\o.cN<18446744073709551616/\0<=o.value/\o.value<18446744073709551616
def tg(a b:Nat):Nat:=(BitVec.ofNat 64 a &&& ~~~ BitVec.ofNat 64 b).toNat
theorem Gm(a b:Nat):lS a b=(tg a b:Nat):=by
 unfold lS tg
 have e:IntKind.u64.bits=64:=rfl
 rw[e]
 have:=(BitVec.ofNat 64 a &&& ~~~ BitVec.ofNat 64 b).isLt
 rw[IntWalk.u64_in _ (by simp only[BitVec.ofInt_natCast];omega)]
 simp only[BitVec.ofInt_natCast]
theorem xE{a b i:Nat}:(tg a b).testBit i=(decide (i<64)&&a.testBit i&&!b.testBit i):=by
 unfold tg
 rw[BitVec.testBit_toNat,BitVec.getLsbD_and,BitVec.getLsbD_not,BitVec.getLsbD_ofNat,BitVec.getLsbD_ofNat]
 by_cases h:i<64<;>simp[h]
theorem LM{m b:Nat}(hm:m<2^64):(tg m (2^b-1)=0)↔m/2^b=0:=by
 constructor
 ·intro h
  apply Nat.eq_of_testBit_eq
  intro i
  rw[Nat.zero_testBit,Nat.testBit_div_two_pow]
  cases hb:m.testBit (i+b) with
  |false=>rfl
  |true=>
   have aR:i+b<64:=by
    rcases Nat.lt_or_ge (i+b) 64 with h |h
    ·exact h
    ·rw[Nat.testBit_lt_two_pow (Nat.lt_of_lt_of_le hm (Nat.pow_le_pow_right (by decide) h))]at hb;cases hb
   have:=xE (a:=m) (b:=2^b-1) (i:=i+b)
   rw[h,Nat.zero_testBit,hb,zL aR,Nat.testBit_two_pow_sub_one,zK (by omega)]at this
   cases this
 ·intro h
  apply Nat.eq_of_testBit_eq
  intro i
  rw[Nat.zero_testBit,xE,Nat.testBit_two_pow_sub_one]
  by_cases hi:i<b
  ·rw[zL hi];simp
  ·have:m.testBit i=(m/2^b).testBit (i-b):=by rw[Nat.testBit_div_two_pow,Nat.sub_add_cancel (by omega)]
   rw[this,h,Nat.zero_testBit];simp
theorem DI{b:Nat}(hb:b<=64):pI b=((2^b-1:Nat):Int):=by
 unfold pI
 by_cases h:(b:Int)=64
 ·rw[zX h]
  have:b=64:=by omega
  subst this
  rfl
 ·rw[zW h]
  have aR:b<64:=by omega
  unfold QG
  have e:IntKind.u64.bits=64:=rfl
  have hp:2^b<=2^63:=Nat.pow_le_pow_right (by decide) (by omega)
  have h1:1<=2^b:=Nat.one_le_two_pow
  rw[e,zY,Nat.min_eq_left (by omega),Int.one_mul]
  have e2:((2:Int)^b)=((2^b:Nat):Int):=by simp
  have w1:IntKind.u64.wrap ((2^b:Nat):Int)=((2^b:Nat):Int):=IntWalk.u64_in _ (by omega)
  rw[e2,w1,IntWalk.u64_in _ (by omega)]
  omega
theorem I5{b m:Int}(h0:0<=b)(h1:b<=64)(hm:0<=m)(P8:m<18446744073709551616):nY m b=(lS m (pI b) != 0):=by
 obtain⟨b,rfl⟩:∃n:Nat,b=n:=⟨b.toNat,by omega⟩
 obtain⟨m,rfl⟩:∃n:Nat,m=n:=⟨m.toNat,by omega⟩
 have kT:m<2^64:=by omega
 rw[DI (by omega),Gm]
 have key:=LM (b:=b) kT
 unfold nY
 have e:IntKind.u64.bits=64:=rfl
 rw[e,IntWalk.u64_in _ (by omega),zY,Nat.min_eq_left (by omega)]
 have e3:(m:Int).fdiv (2^b)=((m/2^b:Nat):Int):=by
  rw[show((2:Int)^b)=((2^b:Nat):Int) by simp]
  rw[Int.fdiv_eq_ediv_of_nonneg _ (Int.natCast_nonneg _)]
  rfl
 rw[e3]
 by_cases hz:m/2^b=0
 ·rw[key.2 hz,hz];simp
 ·have hz2:tg m (2^b-1)≠0:=fun h=>hz (key.1 h)
  have hb:b<64:=by
   rcases Nat.lt_or_ge b 64 with h |h
   ·exact h
   ·exact absurd (Nat.div_eq_of_lt (Nat.lt_of_lt_of_le kT (Nat.pow_le_pow_right (by decide) h))) hz
  have a1:((m/2^b:Nat):Int)≠0:=by omega
  have a2:((tg m (2^b-1):Nat):Int)≠0:=by omega
  rw[bne_iff_ne.2 a1,bne_iff_ne.2 a2,zL (by omega)];rfl
theorem LL(b:Nat):lS 0 b=0:=by
 have:=Gm 0 b
 rw[show((0:Nat):Int)=0 from rfl]at this
 rw[this]
 have:tg 0 b=0:=by
  apply Nat.eq_of_testBit_eq
  intro i
  rw[xE];simp
 rw[this];rfl
theorem JI{b:Int}{o:dS}(h0:0<=b)(h1:b<=64)(hm:HX o):tK b o=(yf b o||k_ o):=by
 obtain⟨m0,m1,v0,v1⟩:=hm
 have hk:(decide (o.kind<1)||decide (3<o.kind))=!(o.kind==1||o.kind==2||o.kind==3):=by
  by_cases h1:o.kind=1
  ·simp[h1]
  by_cases h2:o.kind=2
  ·simp[h2]
  by_cases h3:o.kind=3
  ·simp[h3]
  rw[beq_eq_false_iff_ne.2 h1,beq_eq_false_iff_ne.2 h2,beq_eq_false_iff_ne.2 h3]
  by_cases h4:o.kind<1
  ·simp[h4]
  ·simp;omega
 unfold tK yf
 rw[hk,I5 h0 h1 m0 m1]
 obtain⟨b,rfl⟩:∃n:Nat,b=n:=⟨b.toNat,by omega⟩
 have a1:o.cN=0->lS o.cN (pI b)=0:=fun h=>by rw[h,DI (by omega)];exact LL _
 have a2:o.value=0->lS o.value o.cN=0:=fun h=>by
  rw[h]
  obtain⟨m,hm⟩:∃n:Nat,o.cN=n:=⟨o.cN.toNat,by omega⟩
  rw[hm];exact LL _
 generalize (!(o.kind==1||o.kind==2||o.kind==3))=kn
 by_cases wZ:o.cN=0
 ·by_cases Uw:o.value=0
  ·rw[a1 wZ,a2 Uw,wZ,Uw]
   cases kn<;>cases o.cond<;>simp
  ·rw[a1 wZ,wZ]
   have:(o.value==0)=false:=beq_eq_false_iff_ne.2 Uw
   cases kn<;>cases o.cond<;>simp[bne,this]
 ·have hm':(o.cN==0)=false:=beq_eq_false_iff_ne.2 wZ
  cases kn<;>cases o.cond<;>simp[bne,hm']
theorem IZ{q b:Int}{o:dS}(h0:0<=b)(h1:b<=64)(hm:HX o):oP q b o=oQ q b o:=by
 unfold oP oQ pF
 rw[JI h0 h1 hm]
 cases yf b o<;>cases k_ o<;>rfl
theorem xA{q b:Int}(h0:0<=b)(h1:b<=64):∀{l:List dS}{i:Nat}{n:Int},(∀o∈l,HX o)->lu q b l i n=iF q b l i n
 |[],_,_,_=>rfl
 |o::l,i,n,h=>by
  simp only[lu,iF,IZ h0 h1 (h o (by simp))]
  rw[xA h0 h1 (l:=l) (fun z hz=>h z (List.mem_cons_of_mem _ hz))]
theorem I3{q b:Int}{l:List dS}(h:∀o∈l,HX o):BS q b l=gQ q b l:=by
 unfold BS gQ
 by_cases k:q<0\/64<q\/b<0\/64<b
 ·rw[zX k,zX k]
 ·rw[zW k,zW k,xA (by omega) (by omega) h]
end
end Go.Proofs.Ytjehibknlmehmaa
