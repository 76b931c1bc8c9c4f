/- Gates, operations, and both checks of a circuit. No condition. -/
import Derived.Test.YtjehibknlmehmaaGreatDoorGc
import Derived.Test.YtjehibknlmehmaaGreatDoorWa
set_option maxRecDepth 100000
namespace Go.Proofs.YtjehibknlmehmaaGreatDoor
section
open Go.Ab
attribute [-simp] aN aD
theorem TO:ii Pg 9=true:=by kernel_rfl
theorem jD:uY Pg 9 Sb:=M0 TO
theorem Sy:nX Pg 138=some (.agg [I 0,I 0,B false,B false,Sb ⟨#[]⟩,.sc .nilFunc]):=by kernel_rfl
def Jn(v:AV):Prop:=∃f a b,v=.fn f a b
section
variable {h:AH} {M:Nat->Prop} {R:AE->AH->Prop}
theorem tW{x0 x1:AV}{c0 c1:AV}(h0:cy x0=some [c0]/\cB c0=true)(h1:cy x1=some [c1]/\cB c1=true)(hR:∀v h',Jn v->Fr h h' (fun _=>False)->R (.ret v) h'):ay Pg 97 [x0,x1] h M R:=by
 apply VF.aI
 unfold VF.n2
 refine⟨_,h0.1,by rw[List.all_cons,h0.2];rfl,_,h1.1,by rw[List.all_cons,h1.2];rfl,?_⟩
 exact hR _ _ ⟨_,_,_,rfl⟩ ((Fr.refl.alloc _).alloc _)
theorem mI{a b:Int}(hR:∀v h',Jn v->Fr h h' (fun _=>False)->R (.ret v) h'):ay Pg 98 [I a,I b] h M R:=by
 apply VE.aI
 unfold VE.n2
 refine⟨_,rfl,rfl,_,rfl,rfl,?_⟩
 exact hR _ _ ⟨_,_,_,rfl⟩ ((Fr.refl.alloc _).alloc _)
theorem zg{a b c:Int}(hR:∀v h',Jn v->Fr h h' (fun _=>False)->R (.ret v) h'):ay Pg 99 [I a,I b,I c] h M R:=by
 apply VD.aI
 unfold VD.n2
 refine⟨_,rfl,rfl,_,rfl,rfl,_,rfl,rfl,?_⟩
 exact hR _ _ ⟨_,_,_,rfl⟩ (((Fr.refl.alloc _).alloc _).alloc _)
theorem mE{a b c:Int}(hR:∀v h',Jn v->Fr h h' (fun _=>False)->R (.ret v) h'):ay Pg 100 [I a,I b,I c] h M R:=by
 apply OT.aI
 unfold OT.n2
 refine⟨_,rfl,rfl,_,rfl,rfl,_,rfl,rfl,?_⟩
 exact hR _ _ ⟨_,_,_,rfl⟩ (((Fr.refl.alloc _).alloc _).alloc _)
theorem eR{h1 h2:AH}{n:Nat}(f:Fr h h1 (fun _=>False))(hn:h.next<=n)(g:Fr h1 h2 (·=n)):Fr h h2 (fun _=>False):=
 f.trans (g.mono fun id e=>.inr (by rw[e];exact hn))
def j3:List (ByteArray×Int×Int):=[(⟨#[105]⟩,1,0),(⟨#[120]⟩,1,0),(⟨#[121]⟩,1,0),(⟨#[122]⟩,1,0),(⟨#[104]⟩,1,1),(⟨#[115]⟩,1,0),(⟨#[115,100,103]⟩,1,0),(⟨#[116]⟩,1,0),(⟨#[116,100,103]⟩,1,0),(⟨#[118]⟩,1,1),(⟨#[118,100,103]⟩,1,1),(⟨#[119]⟩,1,0),(⟨#[119,100,103]⟩,1,0),(⟨#[99,120]⟩,2,0),(⟨#[99,121]⟩,2,0),(⟨#[99,122]⟩,2,0),(⟨#[99,104]⟩,2,1),(⟨#[99,115]⟩,2,0),(⟨#[99,115,100,103]⟩,2,0),(⟨#[115,119,97,112]⟩,2,0),(⟨#[105,115,119,97,112]⟩,2,0),(⟨#[105,115,119,97,112,100,103]⟩,2,0),(⟨#[99,99,120]⟩,3,0),(⟨#[99,99,122]⟩,3,0),(⟨#[99,115,119,97,112]⟩,3,0)]
inductive oN:List (ByteArray×Int×Int)->List (ByteArray×AV)->Prop
 |nil:oN [] []
 |snoc {t:List (ByteArray×Int×Int)} {l:List (ByteArray×AV)} {n:ByteArray} {a b:Int} {r:List AV}:oN t l->r.length=4->oN (t++[(n,a,b)]) (l++[(n,.agg (I a::I b::r))])
theorem oN.get{t:List (ByteArray×Int×Int)}{l:List (ByteArray×AV)}(hk:oN t l)(n:ByteArray):match t.find? (fun x=>decide (x.1=n)) with |some x=>∃r,eu n l=some (.agg (I x.2.1::I x.2.2::r))/\r.length=4 |none=>eu n l=none:=by
 induction hk with
 |nil=>rfl
 | @snoc t l m a b r hk hr ih=>
  rw[List.find?_append,Nw]
  cases hf:t.find? (fun x=>decide (x.1=n)) with
  |some x=>
   rw[hf]at ih
   obtain⟨r',h1,h2⟩:=ih
   exact⟨r',by rw[h1];rfl,h2⟩
  |none=>
   rw[hf]at ih
   simp only at ih
   rw[ih]
   by_cases e:m=n
   ·subst e
    simp only[List.find?_cons,decide_true,Option.none_or]
    exact⟨r,by simp[eu],hr⟩
   ·simp only[List.find?_cons,zK e,List.find?_nil,Option.none_or]
    simp only[eu]
    rw[zW (fun h=>e (Eq.symm h))]
theorem oN.ZF{t:List (ByteArray×Int×Int)}{l:List (ByteArray×AV)}(hk:oN t l){n:ByteArray}(hn:t.all (fun x=>decide (x.1≠n))=true):eu n l=none:=by
 have:=hk.get n
 have hf:t.find? (fun x=>decide (x.1=n))=none:=by
  rw[List.find?_eq_none]
  intro x hx
  have:=List.all_eq_true.1 hn x hx
  simpa using this
 rw[hf]at this
 exact this
theorem dr{n:Nat}{t:List (ByteArray×Int×Int)}{l:List (ByteArray×AV)}{nm:ByteArray}{a b:Int}{r:List AV}{W:Nat->Prop}{K:AH->Prop}(hk:oN t l)(ho:h.obj n=some (lB Sb 139 l))(hn:t.all (fun x=>decide (x.1≠nm))=true)(hr:r.length=4)(hW:W n)
  (hK:∀l' h',oN (t++[(nm,a,b)]) l'->h'.obj n=some (lB Sb 139 l')->Fr h h' (·=n)->K h'):dP Pg (some (9,138)) (.mp n) (Sb nm) (.agg (I a::I b::r)) h W K:=
 uq (enc:=Sb) jD hW ho (hk.ZF hn) fun h' h1 h2=>hK _ h' (hk.snoc hr) h1 h2
theorem EI(hR:∀n l h',h'.obj n=some (lB Sb 139 l)->oN j3 l->Fr h h' (fun _=>False)->R (.ret (.mp n)) h'):ay Pg 77 [] h M R:=by
 apply Qy.aI
 unfold Qy.n2 Qy.n1
 refine zf (enc:=Sb) fun n h1 ho1 hn f1=>?_
 have kr:=oN.nil
 refine ru ⟨rfl,rfl⟩ fun z2 h2 f' _ _=>?_
 have ho2:=f'.bQ ho1
 have f2:=f1.bO f'
 refine⟨fun _=>False,fun _ h=>h.elim,tW ⟨rfl,rfl⟩ ⟨rfl,rfl⟩ fun v3 h3 hv f'=>?_⟩
 obtain⟨_,_,_,rfl⟩:=hv
 have Uo:=f'.bQ ho2
 have f3:=f2.bO f'
 refine⟨_,rfl,?_⟩
 refine dr kr Uo (by decide +kernel) rfl (.inr hn) fun l h4 kr ho4 f'=>?_
 have f4:=eR f3 hn f'
 refine ru ⟨rfl,rfl⟩ fun z5 h5 f' _ _=>?_
 have Un:=f'.bQ ho4
 have f5:=f4.bO f'
 refine⟨fun _=>False,fun _ h=>h.elim,tW ⟨rfl,rfl⟩ ⟨rfl,rfl⟩ fun v6 h6 hv f'=>?_⟩
 obtain⟨_,_,_,rfl⟩:=hv
 have ho6:=f'.bQ Un
 have f6:=f5.bO f'
 refine⟨_,rfl,?_⟩
 refine dr kr ho6 (by decide +kernel) rfl (.inr hn) fun l h7 kr ho7 f'=>?_
 have f7:=eR f6 hn f'
 refine ru ⟨rfl,rfl⟩ fun z8 h8 f' _ _=>?_
 have ho8:=f'.bQ ho7
 have f8:=f7.bO f'
 refine⟨fun _=>False,fun _ h=>h.elim,tW ⟨rfl,rfl⟩ ⟨rfl,rfl⟩ fun v9 h9 hv f'=>?_⟩
 obtain⟨_,_,_,rfl⟩:=hv
 have ho9:=f'.bQ ho8
 have f9:=f8.bO f'
 refine⟨_,rfl,?_⟩
 refine dr kr ho9 (by decide +kernel) rfl (.inr hn) fun l kV kr aaE f'=>?_
 have f10:=eR f9 hn f'
 refine⟨fun _=>False,fun _ h=>h.elim,mI fun v11 mq hv f'=>?_⟩
 obtain⟨_,_,_,rfl⟩:=hv
 have aaD:=f'.bQ aaE
 have f11:=f10.bO f'
 refine⟨_,rfl,?_⟩
 refine dr kr aaD (by decide +kernel) rfl (.inr hn) fun l pb kr aaC f'=>?_
 have f12:=eR f11 hn f'
 refine⟨fun _=>False,fun _ h=>h.elim,zg fun v13 wO hv f'=>?_⟩
 obtain⟨_,_,_,rfl⟩:=hv
 have aaB:=f'.bQ aaC
 have f13:=f12.bO f'
 refine⟨_,rfl,?_⟩
 refine dr kr aaB (by decide +kernel) rfl (.inr hn) fun l sU kr aaA f'=>?_
 have f14:=eR f13 hn f'
 refine⟨fun _=>False,fun _ h=>h.elim,mI fun v15 vD hv f'=>?_⟩
 obtain⟨_,_,_,rfl⟩:=hv
 have Nf:=f'.bQ aaA
 have f15:=f14.bO f'
 refine⟨_,rfl,?_⟩
 refine dr kr Nf (by decide +kernel) rfl (.inr hn) fun l kU kr aaz f'=>?_
 have f16:=eR f15 hn f'
 refine⟨fun _=>False,fun _ h=>h.elim,mI fun v17 sT hv f'=>?_⟩
 obtain⟨_,_,_,rfl⟩:=hv
 have aay:=f'.bQ aaz
 have f17:=f16.bO f'
 refine⟨_,rfl,?_⟩
 refine dr kr aay (by decide +kernel) rfl (.inr hn) fun l sS kr aax f'=>?_
 have f18:=eR f17 hn f'
 refine⟨fun _=>False,fun _ h=>h.elim,mI fun v19 vC hv f'=>?_⟩
 obtain⟨_,_,_,rfl⟩:=hv
 have aaw:=f'.bQ aax
 have f19:=f18.bO f'
 refine⟨_,rfl,?_⟩
 refine dr kr aaw (by decide +kernel) rfl (.inr hn) fun l qM kr aav f'=>?_
 have f20:=eR f19 hn f'
 refine⟨fun _=>False,fun _ h=>h.elim,mI fun v21 sR hv f'=>?_⟩
 obtain⟨_,_,_,rfl⟩:=hv
 have aau:=f'.bQ aav
 have f21:=f20.bO f'
 refine⟨_,rfl,?_⟩
 refine dr kr aau (by decide +kernel) rfl (.inr hn) fun l qj kr aat f'=>?_
 have f22:=eR f21 hn f'
 refine⟨fun _=>False,fun _ h=>h.elim,zg fun v23 Di hv f'=>?_⟩
 obtain⟨_,_,_,rfl⟩:=hv
 have aas:=f'.bQ aat
 have f23:=f22.bO f'
 refine⟨_,rfl,?_⟩
 refine dr kr aas (by decide +kernel) rfl (.inr hn) fun l vB kr aar f'=>?_
 have f24:=eR f23 hn f'
 refine⟨fun _=>False,fun _ h=>h.elim,zg fun v25 vA hv f'=>?_⟩
 obtain⟨_,_,_,rfl⟩:=hv
 have aaq:=f'.bQ aar
 have f25:=f24.bO f'
 refine⟨_,rfl,?_⟩
 refine dr kr aaq (by decide +kernel) rfl (.inr hn) fun l mV kr aap f'=>?_
 have f26:=eR f25 hn f'
 refine ru ⟨rfl,rfl⟩ fun z27 vz f' _ _=>?_
 have aao:=f'.bQ aap
 have f27:=f26.bO f'
 refine⟨fun _=>False,fun _ h=>h.elim,tW ⟨rfl,rfl⟩ ⟨rfl,rfl⟩ fun v28 vy hv f'=>?_⟩
 obtain⟨_,_,_,rfl⟩:=hv
 have aan:=f'.bQ aao
 have f28:=f27.bO f'
 refine⟨_,rfl,?_⟩
 refine dr kr aan (by decide +kernel) rfl (.inr hn) fun l Qd kr aam f'=>?_
 have f29:=eR f28 hn f'
 refine ru ⟨rfl,rfl⟩ fun z30 Qb f' _ _=>?_
 have aal:=f'.bQ aam
 have f30:=f29.bO f'
 refine⟨fun _=>False,fun _ h=>h.elim,tW ⟨rfl,rfl⟩ ⟨rfl,rfl⟩ fun v31 Qa hv f'=>?_⟩
 obtain⟨_,_,_,rfl⟩:=hv
 have aak:=f'.bQ aal
 have f31:=f30.bO f'
 refine⟨_,rfl,?_⟩
 refine dr kr aak (by decide +kernel) rfl (.inr hn) fun l qi kr aaj f'=>?_
 have f32:=eR f31 hn f'
 refine⟨fun _=>False,fun _ h=>h.elim,mE fun v33 Hv hv f'=>?_⟩
 obtain⟨_,_,_,rfl⟩:=hv
 have aai:=f'.bQ aaj
 have f33:=f32.bO f'
 refine⟨_,rfl,?_⟩
 refine dr kr aai (by decide +kernel) rfl (.inr hn) fun l yD kr aah f'=>?_
 have f34:=eR f33 hn f'
 refine⟨_,rfl,?_⟩
 refine dr kr aah (by decide +kernel) rfl (.inr hn) fun l rW kr aag f'=>?_
 have f35:=eR f34 hn f'
 refine⟨fun _=>False,fun _ h=>h.elim,mI fun v36 yz hv f'=>?_⟩
 obtain⟨_,_,_,rfl⟩:=hv
 have aaf:=f'.bQ aag
 have f36:=f35.bO f'
 refine⟨_,rfl,?_⟩
 refine dr kr aaf (by decide +kernel) rfl (.inr hn) fun l vv kr aae f'=>?_
 have f37:=eR f36 hn f'
 refine⟨_,rfl,?_⟩
 refine dr kr aae (by decide +kernel) rfl (.inr hn) fun l Hu kr aad f'=>?_
 have f38:=eR f37 hn f'
 refine⟨fun _=>False,fun _ h=>h.elim,mI fun v39 yy hv f'=>?_⟩
 obtain⟨_,_,_,rfl⟩:=hv
 have aac:=f'.bQ aad
 have f39:=f38.bO f'
 refine⟨_,rfl,?_⟩
 refine dr kr aac (by decide +kernel) rfl (.inr hn) fun l P_ kr aab f'=>?_
 have f40:=eR f39 hn f'
 refine⟨fun _=>False,fun _ h=>h.elim,mI fun v41 yx hv f'=>?_⟩
 obtain⟨_,_,_,rfl⟩:=hv
 have aaa:=f'.bQ aab
 have f41:=f40.bO f'
 refine⟨_,rfl,?_⟩
 refine dr kr aaa (by decide +kernel) rfl (.inr hn) fun l YG kr Z_ f'=>?_
 have f42:=eR f41 hn f'
 refine⟨fun _=>False,fun _ h=>h.elim,mE fun v43 Ht hv f'=>?_⟩
 obtain⟨_,_,_,rfl⟩:=hv
 have Z9:=f'.bQ Z_
 have f43:=f42.bO f'
 refine⟨_,rfl,?_⟩
 refine dr kr Z9 (by decide +kernel) rfl (.inr hn) fun l qL kr Z8 f'=>?_
 have f44:=eR f43 hn f'
 refine⟨fun _=>False,fun _ h=>h.elim,mE fun v45 vu hv f'=>?_⟩
 obtain⟨_,_,_,rfl⟩:=hv
 have Z7:=f'.bQ Z8
 have f45:=f44.bO f'
 refine⟨_,rfl,?_⟩
 refine dr kr Z7 (by decide +kernel) rfl (.inr hn) fun l Hs kr Z6 f'=>?_
 have f46:=eR f45 hn f'
 refine⟨fun _=>False,fun _ h=>h.elim,mE fun v47 sQ hv f'=>?_⟩
 obtain⟨_,_,_,rfl⟩:=hv
 have Z5:=f'.bQ Z6
 have f47:=f46.bO f'
 refine⟨_,rfl,?_⟩
 refine dr kr Z5 (by decide +kernel) rfl (.inr hn) fun l vt kr Z4 f'=>?_
 have f48:=eR f47 hn f'
 refine⟨fun _=>False,fun _ h=>h.elim,mE fun v49 Hr hv f'=>?_⟩
 obtain⟨_,_,_,rfl⟩:=hv
 have Z3:=f'.bQ Z4
 have f49:=f48.bO f'
 refine⟨_,rfl,?_⟩
 refine dr kr Z3 (by decide +kernel) rfl (.inr hn) fun l sP kr Z2 f'=>?_
 have f50:=eR f49 hn f'
 refine⟨fun _=>False,fun _ h=>h.elim,mI fun v51 yw hv f'=>?_⟩
 obtain⟨_,_,_,rfl⟩:=hv
 have Z1:=f'.bQ Z2
 have f51:=f50.bO f'
 refine⟨_,rfl,?_⟩
 refine dr kr Z1 (by decide +kernel) rfl (.inr hn) fun l yv kr Z0 f'=>?_
 have f52:=eR f51 hn f'
 refine⟨fun _=>False,fun _ h=>h.elim,mE fun v53 sO hv f'=>?_⟩
 obtain⟨_,_,_,rfl⟩:=hv
 have ZZ:=f'.bQ Z0
 have f53:=f52.bO f'
 refine⟨_,rfl,?_⟩
 refine dr kr ZZ (by decide +kernel) rfl (.inr hn) fun l Dh kr ZY f'=>?_
 have f54:=eR f53 hn f'
 exact hR _ _ _ ZY kr f54
end
def b6(n:ByteArray):Int:=match j3.find? (fun x=>decide (x.1=n)) with |some x=>x.2.1 |none=>0
def je(n:ByteArray):Int:=match j3.find? (fun x=>decide (x.1=n)) with |some x=>x.2.2 |none=>0
section
variable {h:AH} {M:Nat->Prop} {R:AE->AH->Prop}
theorem zu{n:ByteArray}(hR:∀h',Fr h h' (fun _=>False)->R (.ret (I (b6 n))) h'):ay Pg 44 [Sb n] h M R:=by
 apply QC.aI
 unfold QC.n2 QC.n1
 refine⟨fun _=>False,fun _ h=>h.elim,EI fun m l h1 ho kr f1=>?_⟩
 refine ir (enc:=Sb) jD Sy ho fun _=>?_
 have hg:=kr.get n
 unfold b6 at hR
 cases hf:j3.find? (fun x=>decide (x.1=n)) with
 |none=>
  rw[hf]at hg hR
  simp only at hg
  rw[hg]
  simp[gu,l7]
  exact hR h1 f1
 |some x=>
  rw[hf]at hg hR
  obtain⟨r,hg,hr⟩:=hg
  rw[hg]
  simp[gu,l7]
  exact hR h1 f1
theorem K9{n:ByteArray}(hR:∀h',Fr h h' (fun _=>False)->R (.ret (I (je n))) h'):ay Pg 46 [Sb n] h M R:=by
 apply QA.aI
 unfold QA.n2 QA.n1
 refine⟨fun _=>False,fun _ h=>h.elim,EI fun m l h1 ho kr f1=>?_⟩
 refine ir (enc:=Sb) jD Sy ho fun _=>?_
 have hg:=kr.get n
 unfold je at hR
 cases hf:j3.find? (fun x=>decide (x.1=n)) with
 |none=>
  rw[hf]at hg hR
  simp only at hg
  rw[hg]
  simp[gu,l7]
  exact hR h1 f1
 |some x=>
  rw[hf]at hg hR
  obtain⟨r,hg,hr⟩:=hg
  rw[hg]
  simp[gu,l7]
  exact hR h1 f1
end
end
section
open Go.Ab
attribute [-simp] aN aD
section
variable {h:AH} {M:Nat->Prop} {R:AE->AH->Prop}
theorem GA{n:ByteArray}(hR:R (.ret (I (b6 n))) h):ay Pg 40 [Sb n] h M R:=by
 apply Zd.aI
 by_cases k0:n=⟨#[105]⟩
 ·subst k0
  rw[show b6 ⟨#[105]⟩=1 by decide +kernel]at hR
  simp(decide:=true)
  exact hR
 by_cases k1:n=⟨#[120]⟩
 ·subst k1
  rw[show b6 ⟨#[120]⟩=1 by decide +kernel]at hR
  simp(decide:=true)
  exact hR
 by_cases k2:n=⟨#[121]⟩
 ·subst k2
  rw[show b6 ⟨#[121]⟩=1 by decide +kernel]at hR
  simp(decide:=true)
  exact hR
 by_cases k3:n=⟨#[122]⟩
 ·subst k3
  rw[show b6 ⟨#[122]⟩=1 by decide +kernel]at hR
  simp(decide:=true)
  exact hR
 by_cases k4:n=⟨#[104]⟩
 ·subst k4
  rw[show b6 ⟨#[104]⟩=1 by decide +kernel]at hR
  simp(decide:=true)
  exact hR
 by_cases k5:n=⟨#[115]⟩
 ·subst k5
  rw[show b6 ⟨#[115]⟩=1 by decide +kernel]at hR
  simp(decide:=true)
  exact hR
 by_cases k6:n=⟨#[115,100,103]⟩
 ·subst k6
  rw[show b6 ⟨#[115,100,103]⟩=1 by decide +kernel]at hR
  simp(decide:=true)
  exact hR
 by_cases k7:n=⟨#[116]⟩
 ·subst k7
  rw[show b6 ⟨#[116]⟩=1 by decide +kernel]at hR
  simp(decide:=true)
  exact hR
 by_cases k8:n=⟨#[116,100,103]⟩
 ·subst k8
  rw[show b6 ⟨#[116,100,103]⟩=1 by decide +kernel]at hR
  simp(decide:=true)
  exact hR
 by_cases k9:n=⟨#[118]⟩
 ·subst k9
  rw[show b6 ⟨#[118]⟩=1 by decide +kernel]at hR
  simp(decide:=true)
  exact hR
 by_cases dI:n=⟨#[118,100,103]⟩
 ·subst dI
  rw[show b6 ⟨#[118,100,103]⟩=1 by decide +kernel]at hR
  simp(decide:=true)
  exact hR
 by_cases ep:n=⟨#[119]⟩
 ·subst ep
  rw[show b6 ⟨#[119]⟩=1 by decide +kernel]at hR
  simp(decide:=true)
  exact hR
 by_cases gY:n=⟨#[119,100,103]⟩
 ·subst gY
  rw[show b6 ⟨#[119,100,103]⟩=1 by decide +kernel]at hR
  simp(decide:=true)
  exact hR
 by_cases jh:n=⟨#[99,120]⟩
 ·subst jh
  rw[show b6 ⟨#[99,120]⟩=2 by decide +kernel]at hR
  simp(decide:=true)
  exact hR
 by_cases jc:n=⟨#[99,121]⟩
 ·subst jc
  rw[show b6 ⟨#[99,121]⟩=2 by decide +kernel]at hR
  simp(decide:=true)
  exact hR
 by_cases iR:n=⟨#[99,122]⟩
 ·subst iR
  rw[show b6 ⟨#[99,122]⟩=2 by decide +kernel]at hR
  simp(decide:=true)
  exact hR
 by_cases jR:n=⟨#[99,104]⟩
 ·subst jR
  rw[show b6 ⟨#[99,104]⟩=2 by decide +kernel]at hR
  simp(decide:=true)
  exact hR
 by_cases jb:n=⟨#[99,115]⟩
 ·subst jb
  rw[show b6 ⟨#[99,115]⟩=2 by decide +kernel]at hR
  simp(decide:=true)
  exact hR
 by_cases oV:n=⟨#[99,115,100,103]⟩
 ·subst oV
  rw[show b6 ⟨#[99,115,100,103]⟩=2 by decide +kernel]at hR
  simp(decide:=true)
  exact hR
 by_cases oU:n=⟨#[115,119,97,112]⟩
 ·subst oU
  rw[show b6 ⟨#[115,119,97,112]⟩=2 by decide +kernel]at hR
  simp(decide:=true)
  exact hR
 by_cases oE:n=⟨#[105,115,119,97,112]⟩
 ·subst oE
  rw[show b6 ⟨#[105,115,119,97,112]⟩=2 by decide +kernel]at hR
  simp(decide:=true)
  exact hR
 by_cases qa:n=⟨#[105,115,119,97,112,100,103]⟩
 ·subst qa
  rw[show b6 ⟨#[105,115,119,97,112,100,103]⟩=2 by decide +kernel]at hR
  simp(decide:=true)
  exact hR
 by_cases mQ:n=⟨#[99,99,120]⟩
 ·subst mQ
  rw[show b6 ⟨#[99,99,120]⟩=3 by decide +kernel]at hR
  simp(decide:=true)
  exact hR
 by_cases p_:n=⟨#[99,99,122]⟩
 ·subst p_
  rw[show b6 ⟨#[99,99,122]⟩=3 by decide +kernel]at hR
  simp(decide:=true)
  exact hR
 by_cases oT:n=⟨#[99,115,119,97,112]⟩
 ·subst oT
  rw[show b6 ⟨#[99,115,119,97,112]⟩=3 by decide +kernel]at hR
  simp(decide:=true)
  exact hR
 have e:b6 n=0:=by
  unfold b6
  rw[show j3.find? (fun x=>decide (x.1=n))=none from ?_]
  rw[List.find?_eq_none]
  intro x hx
  simp only[decide_eq_true_eq]
  rintro rfl
  simp only[j3,List.mem_cons,List.not_mem_nil,or_false]at hx
  rcases hx with rfl |rfl |rfl |rfl |rfl |rfl |rfl |rfl |rfl |rfl |rfl |rfl |rfl |rfl |rfl |rfl |rfl |rfl |rfl |rfl |rfl |rfl |rfl |rfl |rfl
  all_goals (first |exact k0 rfl |exact k1 rfl |exact k2 rfl |exact k3 rfl |exact k4 rfl |exact k5 rfl |exact k6 rfl |exact k7 rfl |exact k8 rfl |exact k9 rfl |exact dI rfl |exact ep rfl |exact gY rfl |exact jh rfl |exact jc rfl |exact iR rfl |exact jR rfl |exact jb rfl |exact oV rfl |exact oU rfl |exact oE rfl |exact qa rfl |exact mQ rfl |exact p_ rfl |exact oT rfl)
 rw[e]at hR
 simp[k0,k1,k2,k3,k4,k5,k6,k7,k8,k9,dI,ep,gY,jh,jc,iR,jR,jb,oV,oU,oE,qa,mQ,p_,oT]
 exact hR
theorem Ei{n:ByteArray}(hR:R (.ret (I (je n))) h):ay Pg 41 [Sb n] h M R:=by
 apply Zc.aI
 by_cases k0:n=⟨#[104]⟩
 ·subst k0
  rw[show je ⟨#[104]⟩=1 by decide +kernel]at hR
  simp(decide:=true)
  exact hR
 by_cases k1:n=⟨#[118]⟩
 ·subst k1
  rw[show je ⟨#[118]⟩=1 by decide +kernel]at hR
  simp(decide:=true)
  exact hR
 by_cases k2:n=⟨#[118,100,103]⟩
 ·subst k2
  rw[show je ⟨#[118,100,103]⟩=1 by decide +kernel]at hR
  simp(decide:=true)
  exact hR
 by_cases k3:n=⟨#[99,104]⟩
 ·subst k3
  rw[show je ⟨#[99,104]⟩=1 by decide +kernel]at hR
  simp(decide:=true)
  exact hR
 have e:je n=0:=by
  unfold je
  split
  ·rename_i x hx
   have h1:=List.mem_of_find?_eq_some hx
   have h2:=List.find?_some hx
   simp only[decide_eq_true_eq]at h2
   subst h2
   simp only[j3,List.mem_cons,List.not_mem_nil,or_false]at h1
   rcases h1 with rfl |rfl |rfl |rfl |rfl |rfl |rfl |rfl |rfl |rfl |rfl |rfl |rfl |rfl |rfl |rfl |rfl |rfl |rfl |rfl |rfl |rfl |rfl |rfl |rfl
   all_goals (first |rfl |exact absurd rfl k0 |exact absurd rfl k1 |exact absurd rfl k2 |exact absurd rfl k3)
  ·rfl
 rw[e]at hR
 simp[k0,k1,k2,k3]
 exact hR
def jn{α:Type}[DecidableEq α](x:α):List α->Nat->Option Nat
 |[],_=>none
 |a::l,i=>if x=a then some i else jn x l (i+1)
end
end
section
open Go.Ab
attribute [-simp] aN aD
def di(n:Int):List AV:=[I n]
def nI(s:ByteArray):List AV:=[Sb s]
theorem fT(n:Int):(di n).length=1:=rfl
theorem FC(n:ByteArray):(nI n).length=1:=rfl
def gB{α:Type}[DecidableEq α](x:α)(l:List α):Bool:=(jn x l 0).isSome
theorem C2{α:Type}[DecidableEq α]{x:α}:∀{l:List α}{i j:Nat},jn x l i=some j->i<=j/\x∈l
 |a::l,i,j,h=>by
  simp only[jn]at h
  split at h
  ·rename_i e;cases h;exact⟨zU _,by rw[e];simp⟩
  ·have:=C2 h;exact⟨by omega,by simp[this.2]⟩
theorem C3{α:Type}[DecidableEq α]{x:α}:∀{l:List α}{i:Nat},jn x l i=none->x∉l
 |[],_,_=>by simp
 |a::l,i,h=>by
  simp only[jn]at h
  split at h
  ·cases h
  ·rename_i e
   have:=C3 h
   simp only[List.mem_cons,not_or]
   exact⟨e,this⟩
section
variable {h:AH} {M:Nat->Prop} {R:AE->AH->Prop}
theorem KJ{x:AV}{l:List Int}{q:Int}(hx:cf di 1 3 h x l)(hl:l.length<=9223372036854775807)(hR:R (.ret (I (match jn q l 0 with |some j=>j |none=>-1))) h):ay Pg 78 [x,I q] h M R:=by
 apply qp.aI
 simp only[qp.aU,qp.aP,hx.len.1,hx.len.2,zH]
 unfold qp.n9
 refine bX (ι:=Nat) (fun i v h'=>v=[x,I q,I l.length,I i]/\i<=l.length/\h'=h/\jn q (l.drop i) i=jn q l 0) (fun i=>l.length-i) 0 ⟨rfl,by omega,rfl,rfl⟩ ?_
 rintro K i v h' ⟨rfl,hi,rfl,he⟩ hK
 simp only[qp.cn,zN,zO]
 by_cases aM:i<l.length
 ·have dh:(i:Int)<l.length:=by omega
  have g1:l[i]?=some l[i]:=zJ aM
  have w1:IntKind.i64.wrap ((i:Int)+1)=((i+1:Nat):Int):=by rw[aL (by omega) (by omega)];simp
  rw[List.drop_eq_getElem_cons aM]at he
  simp only[jn]at he
  generalize l[i]=y at *
  simp only[qp.n8,ba,zL dh,qp.n7,ao,zD,zF,zC,zI,qp.n6,qp.n5]
  refine ju hx fT g1 rfl fun _=>?_
  rw[dD]
  by_cases e:q=y
  ·rw[zX e]at he
   rw[<-he]at hR
   simp only[beq_iff_eq.2 e,qp.n4,ao,zD,zF,zC,zI,qp.n3]
   simpa using hR
  ·rw[zW e]at he
   simp only[beq_eq_false_iff_ne.2 e,qp.n4,ao,zD,zE,zC,zH,qp.n2,aR,w1]
   exact hK (i+1) _ _ (by omega) ⟨rfl,by omega,rfl,he⟩
 ·have df:¬(i:Int)<l.length:=by omega
  rw[List.drop_of_length_le (by omega)]at he
  rw[<-he]at hR
  simp only[qp.n8,ba,zK df,qp.n7,ao,zD,zE,zC,zH,zV,qp.n1]
  simpa[jn] using hR
theorem FN{x:AV}{l:List Int}{q:Int}(hx:cf di 1 3 h x l)(hl:l.length<=9223372036854775807)(hR:R (.ret (B (gB q l))) h):ay Pg 45 [x,I q] h M R:=by
 apply QB.aI
 unfold QB.n2 QB.n1
 refine⟨fun _=>False,fun _ h=>h.elim,KJ hx hl ?_⟩
 unfold gB at hR
 simp only[nE]
 cases hj:jn q l 0 with
 |some j=>
  rw[hj]at hR
  have h1:(0:Int)<=j:=by omega
  simp only[ge_iff_le,zL h1]
  simpa using hR
 |none=>
  rw[hj]at hR
  simpa using hR
theorem KI{x:AV}{l:List ByteArray}{q:ByteArray}(hx:cf nI 1 9 h x l)(hl:l.length<=9223372036854775807)(hR:R (.ret (I (match jn q l 0 with |some j=>j |none=>-1))) h):ay Pg 131 [x,Sb q] h M R:=by
 apply mB.aI
 simp only[mB.aU,mB.aP,hx.len.1,hx.len.2,zH]
 unfold mB.n9
 refine bX (ι:=Nat) (fun i v h'=>v=[x,Sb q,I l.length,I i]/\i<=l.length/\h'=h/\jn q (l.drop i) i=jn q l 0) (fun i=>l.length-i) 0 ⟨rfl,by omega,rfl,rfl⟩ ?_
 rintro K i v h' ⟨rfl,hi,rfl,he⟩ hK
 simp only[mB.cn,zN,zO]
 by_cases aM:i<l.length
 ·have dh:(i:Int)<l.length:=by omega
  have g1:l[i]?=some l[i]:=zJ aM
  have w1:IntKind.i64.wrap ((i:Int)+1)=((i+1:Nat):Int):=by rw[aL (by omega) (by omega)];simp
  rw[List.drop_eq_getElem_cons aM]at he
  simp only[jn]at he
  generalize l[i]=y at *
  simp only[mB.n8,ba,zL dh,mB.n7,ao,zD,zF,zC,zI,mB.n6,mB.n5]
  refine ju hx FC g1 rfl fun _=>?_
  rw[cU]
  by_cases e:q=y
  ·rw[zX e]at he
   rw[<-he]at hR
   simp only[zL e,mB.n4,ao,zD,zF,zC,zI,mB.n3]
   simpa using hR
  ·rw[zW e]at he
   simp only[zK e,mB.n4,ao,zD,zE,zC,zH,mB.n2,aR,w1]
   exact hK (i+1) _ _ (by omega) ⟨rfl,by omega,rfl,he⟩
 ·have df:¬(i:Int)<l.length:=by omega
  rw[List.drop_of_length_le (by omega)]at he
  rw[<-he]at hR
  simp only[mB.n8,ba,zK df,mB.n7,ao,zD,zE,zC,zH,zV,mB.n1]
  simpa[jn] using hR
theorem FM{x:AV}{l:List ByteArray}{q:ByteArray}(hx:cf nI 1 9 h x l)(hl:l.length<=9223372036854775807)(hR:R (.ret (B (gB q l))) h):ay Pg 114 [x,Sb q] h M R:=by
 apply Jt.aI
 unfold Jt.n2 Jt.n1
 refine⟨fun _=>False,fun _ h=>h.elim,KI hx hl ?_⟩
 unfold gB at hR
 simp only[nE]
 cases hj:jn q l 0 with
 |some j=>
  rw[hj]at hR
  have h1:(0:Int)<=j:=by omega
  simp only[ge_iff_le,zL h1]
  simpa using hR
 |none=>
  rw[hj]at hR
  simpa using hR
end
end
section
open Go.Ab
attribute [-simp] aN aD
structure bI where
 kind:Int
 name:ByteArray
 az:List Int
 bit:Int
 cond:Bool
 cT:Int
 value:Int
def b8(y:bI×AV):List AV:=[I y.1.kind,Sb y.1.name,y.2,I y.1.bit,B y.1.cond,U y.1.cT,U y.1.value]
theorem hG(y:bI×AV):(b8 y).length=7:=rfl
theorem ki{y:bI×AV}(h:cB y.2=true):(b8 y).all cB=true:=by
 show(true&&(true&&(cB y.2&&(true&&(true&&(true&&(true&&true)))))))=true
 rw[h];rfl
def lE(a b:Int):Int:=IntKind.u64.wrap (BitVec.ofInt IntKind.u64.bits a &&& ~~~ BitVec.ofInt IntKind.u64.bits b).toNat
def Qp(b:Int):Int:=IntKind.u64.wrap (IntKind.u64.wrap (1*2^(min b.toNat IntKind.u64.bits))-1)
def pM(b:Int):Int:=if b=64 then 18446744073709551615 else Qp b
def s9(b:Int)(o:bI):Bool:=!(o.kind==1||o.kind==2||o.kind==3)||(o.cond&&o.cT==0)||(!o.cond&&(o.cT != 0||o.value != 0))||(lE o.cT (pM b) != 0)||(lE o.value o.cT != 0)
def iG(o:bI):Bool:=(o.kind != 1&&!decide (o.name=ByteArray.empty))||(o.kind != 2&&o.bit != 0)
def wc(o:bI):Int:=if o.kind=1 then b6 o.name else 1
def vZ(q:Int)(l:List Int):Bool:=l.any fun z=>decide (z<0)||decide (q<=z)
def r0(l:List Int):Bool:=(List.range l.length).any fun i=>gB (l.getD i 0) (l.take i)
def jJ(q b:Int)(o:bI):Int:=
 if s9 b o then 120 else if iG o then 120 else if o.kind=1/\b6 o.name=0 then 80 else if (o.az.length:Int)≠wc o then 111
 else if vZ q o.az then 112 else if o.kind=2/\(o.bit<0\/b<=o.bit) then 112 else if r0 o.az then 113 else 0
theorem Lx{l:List Int}{i:Nat}(hi:i<l.length)(h:gB l[i] (l.take i)=true):r0 l=true:=by
 unfold r0
 rw[List.any_eq_true]
 exact⟨i,List.mem_range.2 hi,by rw[List.getD_eq_getElem?_getD,zJ hi];exact h⟩
theorem Lw{l:List Int}(h:∀i (hi:i<l.length),gB l[i] (l.take i)=false):r0 l=false:=by
 unfold r0
 rw[List.any_eq_false]
 intro i hi
 have:=List.mem_range.1 hi
 rw[List.getD_eq_getElem?_getD,zJ this]
 simp only[Option.getD_some,h i this]
 decide
theorem Km{q:Int}{l:List Int}{i:Nat}(hi:i<l.length)(h:l[i]<0\/q<=l[i]):vZ q l=true:=by
 unfold vZ
 rw[List.any_eq_true]
 exact⟨l[i],List.getElem_mem hi,by simpa using h⟩
theorem Kl{q:Int}{l:List Int}(h:∀i (hi:i<l.length),¬(l[i]<0\/q<=l[i])):vZ q l=false:=by
 unfold vZ
 rw[List.any_eq_false]
 intro z hz
 obtain⟨i,hi,rfl⟩:=List.mem_iff_getElem.1 hz
 simpa using h i hi
theorem NY{α:Type}{f:α->List AV}{sz:Nat}{ty:TypeId}{h:AH}{x:AV}{l:List α}{K:AV->Prop}(hx:cf f sz ty h x l){i:Nat}(hi:i<l.length)
  (hK:∀y,cf f sz ty h y (l.take i)->K y):tj (some sz) x none (some (I i)) h K:=by
 rcases hx with⟨_,rfl⟩ |⟨_,_,_,rfl⟩ |⟨id,rest,ro,nL,rfl,h1,h2⟩
 ·simp at hi
 ·simp at hi
 ·refine LD (by omega) (hK _ (.inr (.inr ⟨id,(l.drop i).flatMap f++rest,ro,nL,by rw[yA,Nat.min_eq_left (by omega)],h1,?_⟩)))
  rw[h2,<-List.append_assoc,<-List.flatMap_append,List.take_append_drop]
section
variable {W:Nat->Prop} {QR QN:VK} {QE:Nat->VK} {QP:AV->AH->Prop} {h:AH} {vc vo:Nat} {q b:Int} {nY xa:AV} {o:bI}
theorem Sp(ho:h.obj vo=some (aO (b8 (o,xa)) 7 38))(hq:cf di 1 3 h xa o.az)(hl:o.az.length<=9223372036854775807)
  (hR:QR [I (if r0 o.az then 113 else 0)] h):cY.aP W QR QN QE QP (.ptr vo 0) h:=by
 unfold cY.aP
 simp only[al,aF,ho,aB,zG,b8,zB,zA,ah,hq.len.1,hq.len.2,zH]
 unfold cY.n9
 refine bX (ι:=Nat) (fun i v h'=>v=[.ptr vo 0,xa,I o.az.length,I i]/\i<=o.az.length/\h'=h/\∀j (hj:j<o.az.length),j<i->gB o.az[j] (o.az.take j)=false) (fun i=>o.az.length-i) 0 ⟨rfl,by omega,rfl,fun j _ h=>by omega⟩ ?_
 rintro K i v h' ⟨rfl,hi,rfl,hb⟩ hK
 simp only[cY.cn,zN,zO]
 by_cases aM:i<o.az.length
 ·have dh:(i:Int)<o.az.length:=by omega
  have g1:o.az[i]?=some o.az[i]:=zJ aM
  have w1:IntKind.i64.wrap ((i:Int)+1)=((i+1:Nat):Int):=by rw[aL (by omega) (by omega)];simp
  have key:=fun hh=>Lx (l:=o.az) aM hh
  have jI:gB o.az[i] (o.az.take i)=false->∀j (hj:j<o.az.length),j<i+1->gB o.az[j] (o.az.take j)=false:=fun h0 j hj ml=>by
   rcases Nat.lt_succ_iff_lt_or_eq.1 ml with h1 |h1
   ·exact hb j hj h1
   ·subst h1;exact h0
  generalize o.az[i]=y at *
  simp only[cY.n8,ba,zL dh,cY.n7,ao,zD,zF,zC,zI,cY.n6]
  refine ju hq fT g1 rfl fun _=>?_
  simp only[cY.n5,al,aF,ho,aB,zG,b8,zB,zA,ah]
  refine NY hq aM fun z hz=>?_
  refine⟨fun _=>False,fun _ h=>h.elim,FN hz (by rw[yA];omega) ?_⟩
  cases hm:gB y (o.az.take i) with
  |true=>
   rw[key hm]at hR
   simpa using hR
  |false=>
   simp only[cY.n4,ao,zE,zC,zD,zH,cY.n2,aR,w1]
   exact hK (i+1) _ _ (by omega) ⟨rfl,by omega,rfl,jI hm⟩
 ·have df:¬(i:Int)<o.az.length:=by omega
  rw[Lw fun j hj=>hb j hj (by omega)]at hR
  simpa[df] using hR
theorem Sq(hc:h.obj vc=some (aO [I q,I b,nY] 3 24))(ho:h.obj vo=some (aO (b8 (o,xa)) 7 38))(hq:cf di 1 3 h xa o.az)(hl:o.az.length<=9223372036854775807)
  (hR:QR [I (if o.kind=2/\(o.bit<0\/b<=o.bit) then 112 else if r0 o.az then 113 else 0)] h):cY.bg W QR QN QE QP (.ptr vc 0) (.ptr vo 0) h:=by
 have fin:∀c:Bool,c=decide (o.kind=2/\(o.bit<0\/b<=o.bit))->cY.aQ W QR QN QE QP (.ptr vo 0) (B c) h:=fun c rV=>by
  cases c with
  |true=>
   rw[zX (of_decide_eq_true rV.symm)]at hR
   simpa[cY.aQ] using hR
  |false=>
   rw[zW (of_decide_eq_false rV.symm)]at hR
   simp only[cY.aQ,ao,zE,zC,zD,zH]
   exact Sp ho hq hl hR
 have f1:=fin _ rfl
 by_cases k1:o.kind=2
 ·by_cases k2:o.bit<0
  ·simp[-cY.aQ,k1,k2]at f1
   simp[-cY.aQ,ho,hc,b8,k1,k2]
   exact f1
  ·by_cases k3:b<=o.bit
   ·simp[-cY.aQ,k1,k2,k3]at f1
    simp[-cY.aQ,ho,hc,b8,k1,k2,k3]
    exact f1
   ·simp[-cY.aQ,k1,k2,k3]at f1
    simp[-cY.aQ,ho,hc,b8,k1,k2,k3]
    exact f1
 ·simp[-cY.aQ,k1]at f1
  have iu:(o.kind==2)=false:=by simpa using k1
  simp[-cY.aQ,ho,hc,b8,iu]
  exact f1
theorem So(hc:h.obj vc=some (aO [I q,I b,nY] 3 24))(ho:h.obj vo=some (aO (b8 (o,xa)) 7 38))(hq:cf di 1 3 h xa o.az)(hl:o.az.length<=9223372036854775807)
  (hR:QR [I (if vZ q o.az then 112 else if o.kind=2/\(o.bit<0\/b<=o.bit) then 112 else if r0 o.az then 113 else 0)] h):cY.cj W QR QN QE QP (.ptr vc 0) (.ptr vo 0) h:=by
 unfold cY.cj
 simp only[al,aF,ho,aB,zG,b8,zB,zA,ah,hq.len.1,hq.len.2,zH]
 unfold cY.bW
 refine bX (ι:=Nat) (fun i v h'=>v=[.ptr vc 0,.ptr vo 0,xa,I o.az.length,I i]/\i<=o.az.length/\h'=h/\∀j (hj:j<o.az.length),j<i->¬(o.az[j]<0\/q<=o.az[j])) (fun i=>o.az.length-i) 0 ⟨rfl,by omega,rfl,fun j _ h=>by omega⟩ ?_
 rintro K i v h' ⟨rfl,hi,rfl,hb⟩ hK
 simp only[cY.fI,zN,zO]
 by_cases aM:i<o.az.length
 ·have dh:(i:Int)<o.az.length:=by omega
  have g1:o.az[i]?=some o.az[i]:=zJ aM
  have w1:IntKind.i64.wrap ((i:Int)+1)=((i+1:Nat):Int):=by rw[aL (by omega) (by omega)];simp
  have key:=fun hh=>Km (q:=q) (l:=o.az) aM hh
  have jI:¬(o.az[i]<0\/q<=o.az[i])->∀j (hj:j<o.az.length),j<i+1->¬(o.az[j]<0\/q<=o.az[j]):=fun h0 j hj ml=>by
   rcases Nat.lt_succ_iff_lt_or_eq.1 ml with h1 |h1
   ·exact hb j hj h1
   ·subst h1;exact h0
  generalize o.az[i]=y at *
  simp only[cY.bT,ba,zL dh,cY.bY,ao,zD,zF,zC,zI]
  unfold cY.bZ
  refine ju hq fT g1 rfl fun _=>?_
  by_cases k1:y<0
  ·rw[key (.inl k1)]at hR
   simp[cY.bD,cY.bG,cY.bE,cY.bC,k1]
   simpa using hR
  ·by_cases k2:q<=y
   ·rw[key (.inr k2)]at hR
    simp[cY.bD,cY.bG,cY.bE,cY.bC,k1,hc,k2]
    simpa using hR
   ·simp[cY.bD,cY.bG,cY.bE,cY.bC,k1,hc,k2,w1]
    exact hK (i+1) _ _ (by omega) ⟨rfl,by omega,rfl,jI (by omega)⟩
 ·have df:¬(i:Int)<o.az.length:=by omega
  rw[Kl fun j hj=>hb j hj (by omega)]at hR
  simp[-cY.bg,df]
  exact Sq hc ho hq hl (by simpa using hR)
def pE(q b:Int)(o:bI):Int:=if vZ q o.az then 112 else if o.kind=2/\(o.bit<0\/b<=o.bit) then 112 else if r0 o.az then 113 else 0
theorem HV(hc:h.obj vc=some (aO [I q,I b,nY] 3 24))(ho:h.obj vo=some (aO (b8 (o,xa)) 7 38))(hq:cf di 1 3 h xa o.az)(hl:o.az.length<=9223372036854775807){n:Int}
  (hR:QR [I (if (o.az.length:Int)≠n then 111 else pE q b o)] h):cY.cV W QR QN QE QP (.ptr vc 0) (.ptr vo 0) (I n) h:=by
 unfold cY.cV
 simp only[al,aF,ho,aB,zG,b8,zB,zA,ah,hq.len.1,hq.len.2,zH,cZ,iE]
 by_cases k:(o.az.length:Int)=n
 ·rw[zW (by simpa using k)]at hR
  rw[zL k]
  simp only[cY.cN,ao,zS,zE,zC,zD,zH]
  exact So hc ho hq hl hR
 ·rw[zX k]at hR
  rw[zK k]
  simpa[cY.cN] using hR
theorem Oz(hc:h.obj vc=some (aO [I q,I b,nY] 3 24))(ho:h.obj vo=some (aO (b8 (o,xa)) 7 38))(hq:cf di 1 3 h xa o.az)(hl:o.az.length<=9223372036854775807)
  (hR:∀h',Fr h h' (fun _=>False)->QR [I (if o.kind=1/\b6 o.name=0 then 80 else if (o.az.length:Int)≠wc o then 111 else pE q b o)] h'):cY.fM W QR QN QE QP (.ptr vc 0) (.ptr vo 0) h:=by
 unfold cY.fM cY.fQ
 simp only[al,aF,ho,aB,zG,b8,zB,zA,ah,dD]
 unfold wc at hR
 by_cases k:o.kind=1
 ·have k':(o.kind==1)=true:=by simpa using k
  rw[k']
  simp only[cY.fc,ao,zF,zC,zD,zI,cY.ft,al,aF,ho,aB,zG,b8,zB,zA,ah]
  refine⟨fun _=>False,fun _ h=>h.elim,zu fun h1 f1=>?_⟩
  have hR:=hR h1 f1
  by_cases k2:b6 o.name=0
  ·rw[zX ⟨k,k2⟩]at hR
   simpa[cY.eh,cY.dH,k2] using hR
  ·rw[zW (fun h=>k2 h.2),zX k]at hR
   have TH:(b6 o.name==0)=false:=by simpa using k2
   simp only[cY.eh,dD,TH,cY.dH,ao,zE,zC,zD,zH]
   exact HV (f1.bQ hc) (f1.bQ ho) (hq.bp f1) hl hR
 ·have k':(o.kind==1)=false:=by simpa using k
  rw[k']
  have hR:=hR h Fr.refl
  rw[zW (fun h=>k h.1),zW k]at hR
  simp only[cY.fc,ao,zE,zC,zD,zH]
  exact HV hc ho hq hl hR
theorem Ox(hc:h.obj vc=some (aO [I q,I b,nY] 3 24))(ho:h.obj vo=some (aO (b8 (o,xa)) 7 38))(hq:cf di 1 3 h xa o.az)(hl:o.az.length<=9223372036854775807)
  (hR:∀h',Fr h h' (fun _=>False)->QR [I (if iG o then 120 else if o.kind=1/\b6 o.name=0 then 80 else if (o.az.length:Int)≠wc o then 111 else pE q b o)] h'):cY.nQ W QR QN QE QP (.ptr vc 0) (.ptr vo 0) h:=by
 have fin:∀c:Bool,c=iG o->cY.fp W QR QN QE QP (.ptr vc 0) (.ptr vo 0) (B c) h:=fun c rV=>by
  rw[<-rV]at hR
  cases c with
  |true=>simpa[cY.fp] using hR h Fr.refl
  |false=>
   simp only[cY.fp,ao,zE,zC,zD,zH]
   exact Oz hc ho hq hl hR
 have f1:=fin _ rfl
 unfold iG at f1
 have e0:(⟨#[]⟩:ByteArray)=ByteArray.empty:=rfl
 revert f1
 cases k1:(o.kind==1)<;>by_cases k2:o.name=ByteArray.empty<;>cases k3:(o.kind==2)<;>cases k4:(o.bit==0)<;>intro f1 <;>
  simp[-cY.fp,bne,k1,k2,k3,k4]at f1<;>simp[-cY.fp,bne,ho,hc,b8,k1,k2,k3,k4,e0]<;>exact f1
end
end
section
open Go.Ab
attribute [-simp] aN aD
section
variable {W:Nat->Prop} {QR QN:VK} {QE:Nat->VK} {QP:AV->AH->Prop} {h:AH} {vc vo:Nat} {q b:Int} {nY xa:AV} {o:bI}
theorem vX{t:TypeId}{c:Bool}{x y:Int}{K:AV->Prop}:aa Pg .andNot t c (U x) (U y) K=K (U (lE x y)):=by
 simp[aa,lE]
theorem Oy{kn:Bool}(ho:h.obj vo=some (aO (b8 (o,xa)) 7 38))
  (hK:cY.jB W QR QN QE QP (.ptr vc 0) (.ptr vo 0) (B (!kn||(o.cond&&o.cT==0)||(!o.cond&&(o.cT != 0||o.value != 0))||(lE o.cT (pM b) != 0)||(lE o.value o.cT != 0))) h):cY.ED W QR QN QE QP (.ptr vc 0) (.ptr vo 0) (B kn) (U (pM b)) h:=by
 revert hK
 cases kn with
 |false=>intro hK;simp[-cY.jB]at hK;simp[-cY.jB];exact hK
 |true=>
  cases k1:o.cond<;>cases k2:(o.cT==0)<;>cases k3:(o.value==0)<;>cases k4:(lE o.cT (pM b)==0)<;>cases k5:(lE o.value o.cT==0)<;>intro hK <;>
   simp[-cY.jB,bne,k1,k2,k3,k4,k5]at hK<;>simp[-cY.jB,bne,ho,b8,k1,k2,k3,k4,k5,vX]<;>exact hK
theorem OA{kn:Bool}(hb:0<=b)(hc:h.obj vc=some (aO [I q,I b,nY] 3 24))(hK:cY.ED W QR QN QE QP (.ptr vc 0) (.ptr vo 0) (B kn) (U (pM b)) h):cY.CM W QR QN QE QP (.ptr vc 0) (.ptr vo 0) (B kn) h:=by
 unfold pM at hK
 by_cases k:b=64
 ·rw[zX k]at hK
  subst k
  simp[-cY.ED,hc,aa]
  exact hK
 ·rw[zW k]at hK
  have k':(b==64)=false:=by simpa using k
  simp only[cY.CM,al,aF,hc,aB,zG,zB,zA,ah,aa,hb,zH,cY.Pd,k',cY.Pe,ao,zE,zC,zD]
  exact hK
theorem L6(hb:0<=b)(hc:h.obj vc=some (aO [I q,I b,nY] 3 24))(ho:h.obj vo=some (aO (b8 (o,xa)) 7 38))
  (hK:cY.jB W QR QN QE QP (.ptr vc 0) (.ptr vo 0) (B (s9 b o)) h):cY.Pb W QR QN QE QP (.ptr vc 0) (.ptr vo 0) h:=by
 have f1:cY.CM W QR QN QE QP (.ptr vc 0) (.ptr vo 0) (B (o.kind==1||o.kind==2||o.kind==3)) h:=OA hb hc (Oy ho hK)
 revert f1
 cases k1:(o.kind==1)<;>cases k2:(o.kind==2)<;>cases k3:(o.kind==3)<;>intro f1<;>simp[-cY.CM]at f1<;>simp[-cY.CM,ho,b8,k1,k2,k3]<;>exact f1
end
section
variable {M:Nat->Prop} {R:AE->AH->Prop} {h:AH}
theorem Nz{q b:Int}{nY:AV}{y:bI×AV}(hb:0<=b)(hx:cB nY=true/\cy nY=some [nY])(hq:cf di 1 3 h y.2 y.1.az)(hl:y.1.az.length<=9223372036854775807)
  (hR:∀h',Fr h h' (fun _=>False)->R (.ret (I (jJ q b y.1))) h'):ay Pg 27 [.agg [I q,I b,nY],.agg (b8 y)] h M R:=by
 apply cY.aI
 unfold cY.Kt
 refine cW (by show(true&&(true&&(cB nY&&true)))=true;rw[hx.1];rfl) fun vc h1 f1 tN oc=>?_
 refine cW (ki hq.one.1) fun vo h2 f2 AU oo=>?_
 have cu:=f1.bO f2
 have Ex:=f2.bQ oc
 obtain⟨o,xa⟩:=y
 refine L6 hb Ex oo ?_
 have fin:∀c:Bool,c=s9 b o->cY.jB (fun id=>M id\/h.next<=id) (aH Pg [.tmp 4] R) (aH Pg [.tmp 4] R) (fun _ _ _=>False) (fun v h=>R (.bV v) h) (.ptr vc 0) (.ptr vo 0) (B c) h2:=fun c rV=>by
  unfold jJ at hR
  rw[<-rV]at hR
  cases c with
  |true=>simpa[cY.jB] using hR h2 cu
  |false=>
   simp only[cY.jB,ao,zE,zC,zD,zH]
   refine Ox Ex oo (hq.bp cu) hl fun h3 f3=>?_
   simpa[pE] using hR h3 (cu.bO f3)
 exact fin _ rfl
theorem GC{y:bI×AV}(hq:cB y.2=true)(hR:∀h',Fr h h' (fun _=>False)->R (.ret (I (if y.1.kind=1 then je y.1.name else 0))) h'):ay Pg 28 [.agg (b8 y)] h M R:=by
 apply HU.aI
 unfold HU.n5
 refine cW (ki hq) fun vo h1 f1 tN oo=>?_
 obtain⟨o,xa⟩:=y
 by_cases k:o.kind=1
 ·simp only[zX k]at hR
  have k':(o.kind != 1)=false:=by simp[k]
  simp only[HU.n4,al,aF,oo,aB,zG,b8,zB,zA,ah,cZ,k',HU.n3,ao,zE,zC,zD,zH,HU.n1]
  refine⟨fun _=>False,fun _ h=>h.elim,K9 fun h2 f2=>?_⟩
  simpa using hR h2 (f1.bO f2)
 ·simp only[zW k]at hR
  have k':(o.kind != 1)=true:=by simp[k]
  have:=hR h1 f1
  simpa[oo,b8,k'] using this
end
end
section
open Go.Ab
attribute [-simp] aN aD
structure kN (h:AH) (x:AV) (l:List (bI×AV)):Prop where
 dy:cf b8 7 38 h x l
 qs:∀y∈l,cf di 1 3 h y.2 y.1.az
theorem kN.bp{h h':AH}{x:AV}{l:List (bI×AV)}(a:kN h x l)(hf:Fr h h' fun _=>False):kN h' x l:=⟨a.dy.bp hf,fun y hy=>(a.qs y hy).bp hf⟩
def fu(o:bI):Int:=if o.kind=1 then je o.name else 0
def h_(q b:Int):List bI->Nat->Int->Int×Int
 |[],_,_=>(0,0)
 |o::l,i,n=>if jJ q b o≠0 then(i,jJ q b o) else if 36<n+fu o then(i,116) else h_ q b l (i+1) (n+fu o)
def fg(q b:Int)(l:List bI):Int×Int:=if q<0\/64<q\/b<0\/64<b then(0,2) else if 4096<l.length then(0,115) else h_ q b l 0 0
theorem I1(n:ByteArray):0<=je n/\je n<=1:=by
 unfold je
 split
 ·rename_i x hx
  have h1:=List.mem_of_find?_eq_some hx
  have key:∀x∈j3,0<=x.2.2/\x.2.2<=1:=by decide +kernel
  exact key x h1
 ·omega
theorem Bb(o:bI):0<=fu o/\fu o<=1:=by
 unfold fu
 split
 ·exact I1 _
 ·omega
section
variable {W:Nat->Prop} {QR QN:VK} {QE:Nat->VK} {QP:AV->AH->Prop} {h:AH} {vc:Nat} {q b:Int} {x:AV} {l:List (bI×AV)}
abbrev l5(r:Int×Int):List AV:=[I r.1,I r.2]
theorem ON(hW:∀id,h.next<=id->W id)(hb:0<=b)(hc:h.obj vc=some (aO [I q,I b,x] 3 24))(hx:kN h x l)(hl:l.length<=4096)(ln:∀y∈l,y.1.az.length<=9223372036854775807)
  (hR:∀h',Fr h h' (fun _=>False)->QR (l5 (h_ q b (l.map (·.1)) 0 0)) h'):lT.bj W QR QN QE QP (.ptr vc 0) (I 0) h:=by
 unfold lT.bj
 simp only[al,aF,hc,aB,zG,zB,zA,ah,hx.dy.len.1,hx.dy.len.2,zH]
 unfold lT.bn
 refine bX (ι:=Nat×Int) (fun z v h'=>v=[.ptr vc 0,I z.2,x,I l.length,I z.1]/\z.1<=l.length/\Fr h h' (fun _=>False)/\0<=z.2/\z.2<=36/\h_ q b ((l.drop z.1).map (·.1)) z.1 z.2=h_ q b (l.map (·.1)) 0 0) (fun z=>l.length-z.1) (0,0) ⟨rfl,by simp,Fr.refl,by simp,by simp,by simp⟩ ?_
 rintro K ⟨i,n⟩ v h' ⟨rfl,hi,hf,vi,rS,he⟩ hK
 simp only at hi vi rS he hK
 simp only[lT.cn,zN,zO]
 by_cases aM:i<l.length
 ·have dh:(i:Int)<l.length:=by omega
  have g1:l[i]?=some l[i]:=zJ aM
  have w1:IntKind.i64.wrap ((i:Int)+1)=((i+1:Nat):Int):=by rw[aL (by omega) (by omega)];simp
  have Hg:=hx.qs _ (List.getElem_mem aM)
  have AY:=ln _ (List.getElem_mem aM)
  rw[List.drop_eq_getElem_cons aM,List.map_cons]at he
  simp only[h_]at he
  generalize l[i]=y at *
  simp only[lT.a_,ba,zL dh,lT.aQ,ao,zD,zF,zC,zI]
  unfold lT.aU
  refine hZ (hx.dy.bp hf) hG (ki Hg.one.1) g1 rfl rfl (fun id hid=>hW id (zR hf.next hid)) fun vn h1 f1 qe ov=>?_
  have Hx:=hf.bO f1
  unfold lT.aP
  refine dN (Hx.bQ hc) rfl fun _=>?_
  refine dN ov rfl fun _=>?_
  refine⟨fun _=>False,fun _ h=>h.elim,Nz hb hx.dy.one (Hg.bp Hx) AY fun h2 f2=>?_⟩
  have cu:=Hx.bO f2
  by_cases k:jJ q b y.1=0
  ·rw[zW (by simpa using k)]at he
   have k':(jJ q b y.1 != 0)=false:=by simp[k]
   simp only[lT.n9,cZ,k',lT.n8,ao,zE,zC,zD,zH]
   unfold lT.n6
   refine dN (f2.bQ ov) rfl fun _=>?_
   refine⟨fun _=>False,fun _ h=>h.elim,GC Hg.one.1 fun h3 f3=>?_⟩
   have eO:=cu.bO f3
   have hh:=Bb y.1
   have wn:IntKind.i64.wrap (n+fu y.1)=n+fu y.1:=aL (by omega) (by omega)
   show aa _ _ _ _ (I n) (I (fu y.1)) _
   simp only[aR,wn,lT.n5,dZ]
   by_cases k2:36<n+fu y.1
   ·rw[zX k2]at he
    have:=hR h3 eO
    rw[<-he]at this
    simp only[gt_iff_lt,zL k2,lT.n4,ao,zD,zF,zC,zI]
    exact this
   ·rw[zW k2]at he
    simp only[gt_iff_lt,zK k2,lT.n4,ao,zD,zE,zC,zH,lT.n2,aR,w1]
    exact hK (i+1,n+fu y.1) _ _ (by simp only;omega) ⟨rfl,by simp only;omega,eO,by simp only;omega,by simp only;omega,he⟩
  ·rw[zX k]at he
   have k':(jJ q b y.1 != 0)=true:=by simp[k]
   have:=hR h2 cu
   rw[<-he]at this
   simp only[lT.n9,cZ,k',lT.n8,ao,zD,zF,zC,zI]
   exact this
 ·have df:¬(i:Int)<l.length:=by omega
  rw[List.drop_of_length_le (by omega)]at he
  have:=hR h' hf
  rw[<-he]at this
  simpa[df,h_] using this
end
section
variable {M:Nat->Prop} {R:AE->AH->Prop} {h:AH}
theorem FO{q b:Int}{x:AV}{l:List (bI×AV)}(hx:kN h x l)(ln:∀y∈l,y.1.az.length<=9223372036854775807)
  (hR:∀h',Fr h h' (fun _=>False)->R (.ret (.cM (l5 (fg q b (l.map (·.1)))))) h'):ay Pg 14 [.agg [I q,I b,x]] h M R:=by
 apply lT.aI
 unfold lT.cq
 refine cW (by show(true&&(true&&(cB x&&true)))=true;rw[hx.dy.one.1];rfl) fun vc h1 f1 tN oc=>?_
 unfold fg at hR
 by_cases k1:q<0
 ·have:=hR h1 f1
  rw[zX (.inl k1)]at this
  simpa[oc,k1] using this
 by_cases k2:64<q
 ·have:=hR h1 f1
  rw[zX (.inr (.inl k2))]at this
  simpa[oc,k1,k2] using this
 by_cases k3:b<0
 ·have:=hR h1 f1
  rw[zX (.inr (.inr (.inl k3)))]at this
  simpa[oc,k1,k2,k3] using this
 by_cases k4:64<b
 ·have:=hR h1 f1
  rw[zX (.inr (.inr (.inr k4)))]at this
  simpa[oc,k1,k2,k3,k4] using this
 rw[zW (by omega),zZ]at hR
 simp[-lT.bz,oc,k1,k2,k3,k4]
 unfold lT.bz
 simp only[al,aF,oc,aB,zG,zB,zA,ah,hx.dy.len.1,hx.dy.len.2,zH,dZ,gt_iff_lt]
 by_cases k5:4096<l.length
 ·have:=hR h1 f1
  rw[zX k5]at this
  have EJ:(4096:Int)<l.length:=by omega
  simpa[EJ] using this
 ·rw[zW k5]at hR
  have EJ:¬(4096:Int)<l.length:=by omega
  simp only[zK EJ,lT.bu,ao,zE,zC,zD,zH,lT.aZ]
  exact ON (fun id hid=>.inr (zR f1.next hid)) (by omega) oc (hx.bp f1) (by omega) ln fun h2 f2=>hR h2 (f1.bO f2)
end
end
section
open Go.Ab
attribute [-simp] aN aD
def nW(x n:Int):Bool:=decide (n<64)&&(x.fdiv (2^(min (IntKind.u64.wrap n).toNat IntKind.u64.bits)) != 0)
def tE(b:Int)(o:bI):Bool:=(decide (o.kind<1)||decide (3<o.kind))||(!o.cond&&(o.cT != 0||o.value != 0))||(o.cond&&(o.cT==0||nW o.cT b||lE o.value o.cT != 0))||iG o
def oJ(q b:Int)(o:bI):Int:=if tE b o then 120 else if o.kind=1/\b6 o.name=0 then 80 else if (o.az.length:Int)≠wc o then 111 else pE q b o
section
variable {M:Nat->Prop} {R:AE->AH->Prop} {h:AH}
theorem LJ{x n:Int}(hn:0<=n)(hR:R (.ret (B (nW x n))) h):ay Pg 72 [U x,I n] h M R:=by
 apply Y3.aI
 unfold nW at hR
 have hw:0<=IntKind.u64.wrap n:=by
  rw[IntKind.wrap_u64];omega
 by_cases k:n<64
 ·rw[zL k]at hR
  simp[aa,k,hw]
  simpa using hR
 ·rw[zK k]at hR
  simpa[aa,k] using hR
end
section
variable {W:Nat->Prop} {QR QN:VK} {QE:Nat->VK} {QP:AV->AH->Prop} {h:AH} {vo:Nat} {q b:Int} {xa:AV} {o:bI}
theorem Ol(ho:h.obj vo=some (aO (b8 (o,xa)) 7 38))(hR:QR [I (if iG o then 120 else 0)] h):lx.aP W QR QN QE QP (.ptr vo 0) h:=by
 have fin:∀c:Bool,c=iG o->lx.n3 W QR QN QE QP (B c) h:=fun c rV=>by
  rw[<-rV]at hR
  cases c<;>simpa[lx.n3] using hR
 have f1:=fin _ rfl
 unfold iG at f1
 have e0:(⟨#[]⟩:ByteArray)=ByteArray.empty:=rfl
 revert f1
 cases k1:(o.kind==1)<;>by_cases k2:o.name=ByteArray.empty<;>cases k3:(o.kind==2)<;>cases k4:(o.bit==0)<;>intro f1 <;>
  simp[-lx.n3,bne,k1,k2,k3,k4]at f1<;>simp[-lx.n3,bne,ho,b8,k1,k2,k3,k4,e0]<;>exact f1
theorem Om(hb:0<=b)(ho:h.obj vo=some (aO (b8 (o,xa)) 7 38))(hR:∀h',Fr h h' (fun _=>False)->QR [I (if (!o.cond&&(o.cT != 0||o.value != 0))||(o.cond&&(o.cT==0||nW o.cT b||lE o.value o.cT != 0))||iG o then 120 else 0)] h') :
  lx.bT W QR QN QE QP (I b) (.ptr vo 0) h:=by
 have fin:∀h1,Fr h h1 (fun _=>False)->∀c:Bool,(!o.cond&&(o.cT != 0||o.value != 0))=false->c=(o.cond&&(o.cT==0||nW o.cT b||lE o.value o.cT != 0))->lx.aQ W QR QN QE QP (.ptr vo 0) (B c) h1:=fun h1 f1 c h0 rV=>by
  rw[h0,<-rV]at hR
  cases c with
  |true=>simpa[lx.aQ] using hR h1 f1
  |false=>
   simp only[lx.aQ,ao,zE,zC,zD,zH]
   exact Ol (f1.bQ ho) (by simpa using hR h1 f1)
 cases k1:o.cond with
 |false=>
  have Fe:=hR h Fr.refl
  rw[k1]at Fe fin
  have fin:=fin h Fr.refl false
  revert Fe fin
  cases k2:(o.cT==0)<;>cases k3:(o.value==0)<;>intro Fe fin<;>simp[-lx.aQ,bne,k2,k3]at Fe fin<;>simp[-lx.aQ,bne,ho,b8,k1,k2,k3]<;>first |exact fin |exact Fe
 |true=>
  have Fe:=hR h Fr.refl
  rw[k1]at Fe fin
  cases k2:(o.cT==0) with
  |true=>
   have fin:=fin h Fr.refl true
   simp[-lx.aQ,k2]at fin
   simp[-lx.aQ,ho,b8,k1,k2]
   exact fin
  |false=>
   simp[-lx.aQ,-lx.aZ,ho,b8,k1,k2]
   refine⟨fun _=>False,fun _ h=>h.elim,LJ hb ?_⟩
   have fin:=fin h Fr.refl
   cases k3:nW o.cT b with
   |true=>
    have fin:=fin true
    simp[-lx.aQ,k2,k3]at fin
    simp[-lx.aQ,ho,b8,k1,k2]
    exact fin
   |false=>
    cases k4:(lE o.value o.cT==0) with
    |true=>
     have fin:=fin false
     simp[-lx.aQ,bne,k2,k3,k4]at fin
     simp[-lx.aQ,bne,ho,b8,k1,k2,vX,k4]
     exact fin
    |false=>
     have fin:=fin true
     simp[-lx.aQ,bne,k2,k3,k4]at fin
     simp[-lx.aQ,bne,ho,b8,k1,k2,vX,k4]
     exact fin
end
section
variable {M:Nat->Prop} {R:AE->AH->Prop} {h:AH}
theorem Mq{b:Int}{y:bI×AV}(hb:0<=b)(hq:cB y.2=true)(hR:∀h',Fr h h' (fun _=>False)->R (.ret (I (if tE b y.1 then 120 else 0))) h'):ay Pg 39 [.agg (b8 y),I b] h M R:=by
 apply lx.aI
 unfold lx.cX
 refine cW (ki hq) fun vo h1 f1 tN oo=>?_
 obtain⟨o,xa⟩:=y
 unfold tE at hR
 have P7:=hR h1 f1
 by_cases k1:o.kind<1
 ·simp[k1]at P7
  simpa[oo,b8,k1] using P7
 ·by_cases k2:3<o.kind
  ·simp[k2]at P7
   simpa[oo,b8,k1,k2] using P7
  ·simp[-lx.bT,oo,b8,k1,k2]
   refine Om hb oo fun h2 f2=>?_
   have:=hR h2 (f1.bO f2)
   simpa[k1,k2] using this
end
end
section
open Go.Ab
attribute [-simp] aN aD
theorem Kx{l:List Int}{i k:Nat}(hk:k<i)(hi:i<l.length)(h:l[i]=l[k]'(by omega)):gB l[i] (l.take i)=true:=by
 unfold gB
 cases hx:jn l[i] (l.take i) 0 with
 |some _=>rfl
 |none=>
  have:=C3 hx
  refine absurd ?_ this
  rw[h]
  exact List.mem_iff_getElem.2 ⟨k,by rw[yA];omega,by rw[List.getElem_take]⟩
theorem Rt{l:List Int}{i:Nat}(hi:i<l.length)(h:∀k (hk:k<i),¬l[i]=l[k]'(by omega)):gB l[i] (l.take i)=false:=by
 unfold gB
 cases hx:jn l[i] (l.take i) 0 with
 |none=>rfl
 |some j=>
  have:=(C2 hx).2
  obtain⟨k,hk,he⟩:=List.mem_iff_getElem.1 this
  rw[yA]at hk
  rw[List.getElem_take]at he
  exact absurd he.symm (h k (by omega))
section
variable {W:Nat->Prop} {QR QN:VK} {QE:Nat->VK} {QP:AV->AH->Prop} {h:AH} {vo:Nat} {q b:Int} {xa:AV} {o:bI}
theorem Ss(ho:h.obj vo=some (aO (b8 (o,xa)) 7 38))(hq:cf di 1 3 h xa o.az)(hl:o.az.length<=9223372036854775807)
  (hR:QR [I (if r0 o.az then 113 else 0)] h):dM.bn W QR QN QE QP (.ptr vo 0) (I o.az.length) h:=by
 unfold dM.bn dM.a_
 refine bX (ι:=Nat) (fun i v h'=>v=[.ptr vo 0,I o.az.length,I i]/\i<=o.az.length/\h'=h/\∀j (hj:j<o.az.length),j<i->gB o.az[j] (o.az.take j)=false) (fun i=>o.az.length-i) 0 ⟨rfl,by omega,rfl,fun j _ h=>by omega⟩ ?_
 rintro K i v h' ⟨rfl,hi,rfl,hb⟩ hK
 simp only[dM.cn,zN,zO]
 by_cases aM:i<o.az.length
 ·have dh:(i:Int)<o.az.length:=by omega
  simp only[dM.aQ,ba,zL dh,dM.aU,ao,zD,zF,zC,zI,dM.aP]
  unfold dM.n9
  refine bX (ι:=Nat) (fun k v h2=>v=[.ptr vo 0,I o.az.length,I i,I k]/\k<=i/\h2=h'/\∀j (hj:j<k) (_:j<i),¬o.az[i]=o.az[j]'(by omega)) (fun k=>i-k) 0 ⟨rfl,by omega,rfl,fun j h=>by omega⟩ ?_
  rintro K2 k v h2 ⟨rfl,hk,rfl,hn⟩ P9
  simp only[dM.fI,zN,zO]
  by_cases rU:k<i
  ·have Ni:(k:Int)<i:=by omega
   have g1:o.az[i]?=some o.az[i]:=zJ aM
   have g2:o.az[k]?=some (o.az[k]'(by omega)):=zJ (by omega)
   have w1:IntKind.i64.wrap ((k:Int)+1)=((k+1:Nat):Int):=by rw[aL (by omega) (by omega)];simp
   simp only[dM.n8,ba,zL Ni,dM.n7,ao,zD,zF,zC,zI,dM.n6,al,aF,ho,aB,zG,b8,zB,zA,ah]
   refine ju hq fT g1 rfl fun _=>?_
   refine ju hq fT g2 rfl fun _=>?_
   rw[dD]
   by_cases e:o.az[i]=o.az[k]
   ·rw[Lx aM (Kx rU aM e)]at hR
    simp only[beq_iff_eq.2 e,dM.n5,ao,zD,zF,zC,zI]
    exact hR
   ·simp only[beq_eq_false_iff_ne.2 e,dM.n5,ao,zE,zD,zC,zH,dM.n3,aR,w1]
    refine P9 (k+1) _ _ (by omega) ⟨rfl,by omega,rfl,fun j hj ml=>?_⟩
    rcases Nat.lt_succ_iff_lt_or_eq.1 hj with h1 |h1
    ·exact hn j h1 ml
    ·subst h1;exact e
  ·have Ni:¬(k:Int)<i:=by omega
   have w1:IntKind.i64.wrap ((i:Int)+1)=((i+1:Nat):Int):=by rw[aL (by omega) (by omega)];simp
   have hm:=Rt aM (fun j hj=>hn j (by omega) hj)
   simp only[dM.n8,ba,zK Ni,dM.n7,ao,zD,zE,zC,zH,zV,dM.n2,aR,w1,zN,zO]
   refine hK (i+1) _ _ (by omega) ⟨rfl,by omega,rfl,fun j hj ml=>?_⟩
   rcases Nat.lt_succ_iff_lt_or_eq.1 ml with h1 |h1
   ·exact hb j hj h1
   ·subst h1;exact hm
 ·have df:¬(i:Int)<o.az.length:=by omega
  rw[Lw fun j hj=>hb j hj (by omega)]at hR
  simpa[df] using hR
theorem Su(ho:h.obj vo=some (aO (b8 (o,xa)) 7 38))(hq:cf di 1 3 h xa o.az)(hl:o.az.length<=9223372036854775807)
  (hR:QR [I (if o.kind=2/\(o.bit<0\/b<=o.bit) then 112 else if r0 o.az then 113 else 0)] h):dM.bE W QR QN QE QP (I b) (.ptr vo 0) (I o.az.length) h:=by
 have fin:∀c:Bool,c=decide (o.kind=2/\(o.bit<0\/b<=o.bit))->dM.aZ W QR QN QE QP (.ptr vo 0) (I o.az.length) (B c) h:=fun c rV=>by
  cases c with
  |true=>
   rw[zX (of_decide_eq_true rV.symm)]at hR
   simpa[dM.aZ] using hR
  |false=>
   rw[zW (of_decide_eq_false rV.symm)]at hR
   simp only[dM.aZ,ao,zE,zC,zD,zH]
   exact Ss ho hq hl hR
 have f1:=fin _ rfl
 by_cases k1:o.kind=2
 ·by_cases k2:o.bit<0
  ·simp[-dM.aZ,k1,k2]at f1
   simp[-dM.aZ,ho,b8,k1,k2]
   exact f1
  ·by_cases k3:b<=o.bit
   ·simp[-dM.aZ,k1,k2,k3]at f1
    simp[-dM.aZ,ho,b8,k1,k2,k3]
    exact f1
   ·simp[-dM.aZ,k1,k2,k3]at f1
    simp[-dM.aZ,ho,b8,k1,k2,k3]
    exact f1
 ·simp[-dM.aZ,k1]at f1
  have iu:(o.kind==2)=false:=by simpa using k1
  simp[-dM.aZ,ho,b8,iu]
  exact f1
theorem Sr(ho:h.obj vo=some (aO (b8 (o,xa)) 7 38))(hq:cf di 1 3 h xa o.az)(hl:o.az.length<=9223372036854775807)
  (hR:QR [I (pE q b o)] h):dM.cV W QR QN QE QP (I q) (I b) (.ptr vo 0) (I o.az.length) h:=by
 unfold pE at hR
 unfold dM.cV dM.cN
 refine bX (ι:=Nat) (fun i v h'=>v=[I q,I b,.ptr vo 0,I o.az.length,I i]/\i<=o.az.length/\h'=h/\∀j (hj:j<o.az.length),j<i->¬(o.az[j]<0\/q<=o.az[j])) (fun i=>o.az.length-i) 0 ⟨rfl,by omega,rfl,fun j _ h=>by omega⟩ ?_
 rintro K i v h' ⟨rfl,hi,rfl,hb⟩ hK
 simp only[dM.rY,zN,zO]
 by_cases aM:i<o.az.length
 ·have dh:(i:Int)<o.az.length:=by omega
  have g1:o.az[i]?=some o.az[i]:=zJ aM
  have w1:IntKind.i64.wrap ((i:Int)+1)=((i+1:Nat):Int):=by rw[aL (by omega) (by omega)];simp
  have key:=fun hh=>Km (q:=q) (l:=o.az) aM hh
  have jI:¬(o.az[i]<0\/q<=o.az[i])->∀j (hj:j<o.az.length),j<i+1->¬(o.az[j]<0\/q<=o.az[j]):=fun h0 j hj ml=>by
   rcases Nat.lt_succ_iff_lt_or_eq.1 ml with h1 |h1
   ·exact hb j hj h1
   ·subst h1;exact h0
  generalize o.az[i]=y at *
  simp only[dM.cq,ba,zL dh,dM.cj,ao,zD,zF,zC,zI,dM.bW,al,aF,ho,aB,zG,b8,zB,zA,ah]
  refine ju hq fT g1 rfl fun _=>?_
  by_cases k1:y<0
  ·rw[key (.inl k1)]at hR
   simp[dM.bT,dM.bY,dM.bZ,k1]
   simpa using hR
  ·simp only[ba,zK k1,dM.bT,dl,zT,zE,zD,zC,zI,al,aF,ho,aB,zG,b8,zB,zA,ah]
   refine ju hq fT g1 rfl fun _=>?_
   by_cases k2:q<=y
   ·rw[key (.inr k2)]at hR
    simp[dM.bY,dM.bZ,k2]
    simpa using hR
   ·simp[dM.bY,dM.bZ,k2,w1]
    exact hK (i+1) _ _ (by omega) ⟨rfl,by omega,rfl,jI (by omega)⟩
 ·have df:¬(i:Int)<o.az.length:=by omega
  rw[Kl fun j hj=>hb j hj (by omega)]at hR
  simp[-dM.bE,df]
  exact Su ho hq hl (by simpa using hR)
theorem HX(ho:h.obj vo=some (aO (b8 (o,xa)) 7 38))(hq:cf di 1 3 h xa o.az)(hl:o.az.length<=9223372036854775807){n:Int}
  (hR:QR [I (if (o.az.length:Int)≠n then 111 else pE q b o)] h):dM.eh W QR QN QE QP (I q) (I b) (.ptr vo 0) (I n) h:=by
 unfold dM.eh
 simp only[al,aF,ho,aB,zG,b8,zB,zA,ah,hq.len.1,hq.len.2,zH,cZ,iE]
 by_cases k:(o.az.length:Int)=n
 ·rw[zW (by simpa using k)]at hR
  rw[zL k]
  simp only[dM.dH,ao,zS,zE,zC,zD,zH]
  rw[<-k]
  exact Sr ho hq hl hR
 ·rw[zX k]at hR
  rw[zK k]
  simpa[dM.dH] using hR
theorem OF(ho:h.obj vo=some (aO (b8 (o,xa)) 7 38))(hq:cf di 1 3 h xa o.az)(hl:o.az.length<=9223372036854775807)
  (hR:QR [I (if o.kind=1/\b6 o.name=0 then 80 else if (o.az.length:Int)≠wc o then 111 else pE q b o)] h):dM.fp W QR QN QE QP (I q) (I b) (.ptr vo 0) h:=by
 unfold dM.fp dM.fq
 simp only[al,aF,ho,aB,zG,b8,zB,zA,ah,dD]
 unfold wc at hR
 by_cases k:o.kind=1
 ·have k':(o.kind==1)=true:=by simpa using k
  rw[k']
  simp only[dM.gh,ao,zF,zC,zD,zI,dM.fM,al,aF,ho,aB,zG,b8,zB,zA,ah]
  refine⟨fun _=>False,fun _ h=>h.elim,GA ?_⟩
  by_cases k2:b6 o.name=0
  ·rw[zX ⟨k,k2⟩]at hR
   simpa[dM.fQ,dM.fc,k2] using hR
  ·rw[zW (fun h=>k2 h.2),zX k]at hR
   have TH:(b6 o.name==0)=false:=by simpa using k2
   simp only[dM.fQ,dD,TH,dM.fc,ao,zE,zC,zD,zH]
   exact HX ho hq hl hR
 ·have k':(o.kind==1)=false:=by simpa using k
  rw[k']
  rw[zW (fun h=>k h.1),zW k]at hR
  simp only[dM.gh,ao,zE,zC,zD,zH]
  exact HX ho hq hl hR
end
section
variable {M:Nat->Prop} {R:AE->AH->Prop} {h:AH}
theorem Gy{q b:Int}{y:bI×AV}(hb:0<=b)(hq:cf di 1 3 h y.2 y.1.az)(hl:y.1.az.length<=9223372036854775807)
  (hR:∀h',Fr h h' (fun _=>False)->R (.ret (I (oJ q b y.1))) h'):ay Pg 22 [.agg (b8 y),I q,I b] h M R:=by
 apply dM.aI
 unfold dM.gT
 refine cW (ki hq.one.1) fun vo h1 f1 tN oo=>?_
 unfold dM.iQ
 refine dN oo rfl fun _=>?_
 refine⟨fun _=>False,fun _ h=>h.elim,Mq hb hq.one.1 fun h2 f2=>?_⟩
 have cu:=f1.bO f2
 obtain⟨o,xa⟩:=y
 have hR:=hR h2 cu
 unfold oJ at hR
 cases k:tE b o with
 |true=>
  rw[k]at hR
  simp at hR
  simp[dM.gv,dM.gI]
  exact hR
 |false=>
  rw[k]at hR
  simp only[zE,if_false]at hR
  simp only[zE,if_false,dM.gv,cZ,bne_self_eq_false,dM.gI,ao,zC,zD,zH]
  exact OF (f2.bQ oo) (hq.bp cu) hl (by simpa using hR)
theorem BR{y:bI×AV}(hq:cB y.2=true)(hR:∀h',Fr h h' (fun _=>False)->R (.ret (I (fu y.1))) h'):ay Pg 23 [.agg (b8 y)] h M R:=by
 apply HW.aI
 unfold HW.n5
 refine cW (ki hq) fun vo h1 f1 tN oo=>?_
 obtain⟨o,xa⟩:=y
 unfold fu at hR
 by_cases k:o.kind=1
 ·simp only[zX k]at hR
  have k':(o.kind==1)=true:=by simp[k]
  simp only[HW.n4,al,aF,oo,aB,zG,b8,zB,zA,ah,dD,k',HW.n3,ao,zF,zC,zD,zI,HW.n2]
  refine⟨fun _=>False,fun _ h=>h.elim,Ei ?_⟩
  simpa using hR h1 f1
 ·simp only[zW k]at hR
  have k':(o.kind==1)=false:=by simp[k]
  have:=hR h1 f1
  simpa[oo,b8,k'] using this
end
end
section
open Go.Ab
attribute [-simp] aN aD
def la(q b:Int):List bI->Nat->Int->Int×Int
 |[],_,_=>(0,0)
 |o::l,i,n=>if oJ q b o≠0 then(i,oJ q b o) else if 36<n+fu o then(i,116) else la q b l (i+1) (n+fu o)
def oK(q b:Int)(l:List bI):Int×Int:=if q<0\/64<q\/b<0\/64<b then(0,2) else if 4096<l.length then(0,115) else la q b l 0 0
section
variable {W:Nat->Prop} {QR QN:VK} {QE:Nat->VK} {QP:AV->AH->Prop} {h:AH} {vc:Nat} {q b:Int} {x:AV} {l:List (bI×AV)}
theorem OS(hb:0<=b)(hc:h.obj vc=some (aO [I q,I b,x] 3 24))(hx:kN h x l)(hl:l.length<=4096)(ln:∀y∈l,y.1.az.length<=9223372036854775807)
  (hR:∀h',Fr h h' (fun _=>False)->QR (l5 (la q b (l.map (·.1)) 0 0)) h'):mC.bj W QR QN QE QP (.ptr vc 0) h:=by
 unfold mC.bj mC.bn mC.a_
 refine bX (ι:=Nat×Int) (fun z v h'=>v=[.ptr vc 0,I z.2,I z.1]/\z.1<=l.length/\Fr h h' (fun _=>False)/\0<=z.2/\z.2<=36/\la q b ((l.drop z.1).map (·.1)) z.1 z.2=la q b (l.map (·.1)) 0 0) (fun z=>l.length-z.1) (0,0) ⟨rfl,by simp,Fr.refl,by simp,by simp,by simp⟩ ?_
 rintro K ⟨i,n⟩ v h' ⟨rfl,hi,hf,vi,rS,he⟩ hK
 simp only at hi vi rS he hK
 simp only[mC.cn,zN,zO]
 have qK:=hf.bQ hc
 simp only[mC.aQ,al,aF,qK,aB,zG,zB,zA,ah,hx.dy.len.1,hx.dy.len.2,zH]
 by_cases aM:i<l.length
 ·have dh:(i:Int)<l.length:=by omega
  have g1:l[i]?=some l[i]:=zJ aM
  have w1:IntKind.i64.wrap ((i:Int)+1)=((i+1:Nat):Int):=by rw[aL (by omega) (by omega)];simp
  have Hg:=hx.qs _ (List.getElem_mem aM)
  have AY:=ln _ (List.getElem_mem aM)
  rw[List.drop_eq_getElem_cons aM,List.map_cons]at he
  simp only[la]at he
  generalize l[i]=y at *
  simp only[ba,zL dh,mC.aU,ao,zD,zF,zC,zI,mC.aP,al,aF,qK,aB,zG,zB,zA,ah]
  refine ll (hx.dy.bp hf) hG g1 fun _=>?_
  refine⟨fun _=>False,fun _ h=>h.elim,Gy hb (Hg.bp hf) AY fun h2 f2=>?_⟩
  have cu:=hf.bO f2
  by_cases k:oJ q b y.1=0
  ·rw[zW (by simpa using k)]at he
   have k':(oJ q b y.1 != 0)=false:=by simp[k]
   simp only[mC.n9,cZ,k',mC.n8,ao,zE,zC,zD,zH,mC.n6,al,aF,f2.bQ qK,aB,zG,zB,zA,ah]
   refine ll (hx.dy.bp cu) hG g1 fun _=>?_
   refine⟨fun _=>False,fun _ h=>h.elim,BR Hg.one.1 fun h3 f3=>?_⟩
   have eO:=cu.bO f3
   have hh:=Bb y.1
   have wn:IntKind.i64.wrap (n+fu y.1)=n+fu y.1:=aL (by omega) (by omega)
   simp only[aR,wn,mC.n5,dZ]
   by_cases k2:36<n+fu y.1
   ·rw[zX k2]at he
    have:=hR h3 eO
    rw[<-he]at this
    simp only[gt_iff_lt,zL k2,mC.n4,ao,zD,zF,zC,zI]
    exact this
   ·rw[zW k2]at he
    simp only[gt_iff_lt,zK k2,mC.n4,ao,zD,zE,zC,zH,mC.n2,aR,w1]
    exact hK (i+1,n+fu y.1) _ _ (by simp only;omega) ⟨rfl,by simp only;omega,eO,by simp only;omega,by simp only;omega,he⟩
  ·rw[zX k]at he
   have k':(oJ q b y.1 != 0)=true:=by simp[k]
   have:=hR h2 cu
   rw[<-he]at this
   simp only[mC.n9,cZ,k',mC.n8,ao,zD,zF,zC,zI]
   exact this
 ·have df:¬(i:Int)<l.length:=by omega
  rw[List.drop_of_length_le (by omega)]at he
  have:=hR h' hf
  rw[<-he]at this
  simpa[df,la] using this
end
section
variable {M:Nat->Prop} {R:AE->AH->Prop} {h:AH}
theorem Gz{q b:Int}{x:AV}{l:List (bI×AV)}(hx:kN h x l)(ln:∀y∈l,y.1.az.length<=9223372036854775807)
  (hR:∀h',Fr h h' (fun _=>False)->R (.ret (.cM (l5 (oK q b (l.map (·.1)))))) h'):ay Pg 10 [.agg [I q,I b,x]] h M R:=by
 apply mC.aI
 unfold mC.cj
 refine cW (by show(true&&(true&&(cB x&&true)))=true;rw[hx.dy.one.1];rfl) fun vc h1 f1 tN oc=>?_
 unfold oK at hR
 by_cases k1:q<0
 ·have:=hR h1 f1
  rw[zX (.inl k1)]at this
  simpa[oc,k1] using this
 by_cases k2:64<q
 ·have:=hR h1 f1
  rw[zX (.inr (.inl k2))]at this
  simpa[oc,k1,k2] using this
 by_cases k3:b<0
 ·have:=hR h1 f1
  rw[zX (.inr (.inr (.inl k3)))]at this
  simpa[oc,k1,k2,k3] using this
 by_cases k4:64<b
 ·have:=hR h1 f1
  rw[zX (.inr (.inr (.inr k4)))]at this
  simpa[oc,k1,k2,k3,k4] using this
 rw[zW (by omega),zZ]at hR
 simp[-mC.bu,oc,k1,k2,k3,k4]
 unfold mC.bu
 simp only[al,aF,oc,aB,zG,zB,zA,ah,hx.dy.len.1,hx.dy.len.2,zH,dZ,gt_iff_lt]
 by_cases k5:4096<l.length
 ·have:=hR h1 f1
  rw[zX k5]at this
  have EJ:(4096:Int)<l.length:=by omega
  simpa[EJ] using this
 ·rw[zW k5]at hR
  have EJ:¬(4096:Int)<l.length:=by omega
  simp only[zK EJ,mC.bg,ao,zE,zC,zD,zH]
  exact OS (by omega) oc (hx.bp f1) (by omega) ln fun h2 f2=>hR h2 (f1.bO f2)
end
def xg(o:bI):Prop:=0<=o.cT/\o.cT<18446744073709551616/\0<=o.value/\o.value<18446744073709551616
def ta(a b:Nat):Nat:=(BitVec.ofNat 64 a &&& ~~~ BitVec.ofNat 64 b).toNat
theorem FZ(a b:Nat):lE a b=(ta a b:Nat):=by
 unfold lE ta
 have e:IntKind.u64.bits=64:=rfl
 rw[e]
 have:=(BitVec.ofNat 64 a &&& ~~~ BitVec.ofNat 64 b).isLt
 rw[IntWalk.u64_in _ (by simp only[BitVec.ofInt_natCast];omega)]
 simp only[BitVec.ofInt_natCast]
theorem xc{a b i:Nat}:(ta a b).testBit i=(decide (i<64)&&a.testBit i&&!b.testBit i):=by
 unfold ta
 rw[BitVec.testBit_toNat,BitVec.getLsbD_and,BitVec.getLsbD_not,BitVec.getLsbD_ofNat,BitVec.getLsbD_ofNat]
 by_cases h:i<64<;>simp[h]
theorem LV{m b:Nat}(hm:m<2^64):(ta m (2^b-1)=0)↔m/2^b=0:=by
 constructor
 ·intro h
  apply Nat.eq_of_testBit_eq
  intro i
  rw[Nat.zero_testBit,Nat.testBit_div_two_pow]
  cases hb:m.testBit (i+b) with
  |false=>rfl
  |true=>
   have aM:i+b<64:=by
    rcases Nat.lt_or_ge (i+b) 64 with h |h
    ·exact h
    ·rw[Nat.testBit_lt_two_pow (Nat.lt_of_lt_of_le hm (Nat.pow_le_pow_right (by decide) h))]at hb;cases hb
   have:=xc (a:=m) (b:=2^b-1) (i:=i+b)
   rw[h,Nat.zero_testBit,hb,zL aM,Nat.testBit_two_pow_sub_one,zK (by omega)]at this
   cases this
 ·intro h
  apply Nat.eq_of_testBit_eq
  intro i
  rw[Nat.zero_testBit,xc,Nat.testBit_two_pow_sub_one]
  by_cases hi:i<b
  ·rw[zL hi];simp
  ·have:m.testBit i=(m/2^b).testBit (i-b):=by rw[Nat.testBit_div_two_pow,Nat.sub_add_cancel (by omega)]
   rw[this,h,Nat.zero_testBit];simp
theorem DB{b:Nat}(hb:b<=64):pM b=((2^b-1:Nat):Int):=by
 unfold pM
 by_cases h:(b:Int)=64
 ·rw[zX h]
  have:b=64:=by omega
  subst this
  rfl
 ·rw[zW h]
  have aM:b<64:=by omega
  unfold Qp
  have e:IntKind.u64.bits=64:=rfl
  have hp:2^b<=2^63:=Nat.pow_le_pow_right (by decide) (by omega)
  have h1:1<=2^b:=Nat.one_le_two_pow
  rw[e,zY,Nat.min_eq_left (by omega),Int.one_mul]
  have e2:((2:Int)^b)=((2^b:Nat):Int):=by simp
  have w1:IntKind.u64.wrap ((2^b:Nat):Int)=((2^b:Nat):Int):=IntWalk.u64_in _ (by omega)
  rw[e2,w1,IntWalk.u64_in _ (by omega)]
  omega
theorem Ja{b m:Int}(h0:0<=b)(h1:b<=64)(hm:0<=m)(PG:m<18446744073709551616):nW m b=(lE m (pM b) != 0):=by
 obtain⟨b,rfl⟩:∃n:Nat,b=n:=⟨b.toNat,by omega⟩
 obtain⟨m,rfl⟩:∃n:Nat,m=n:=⟨m.toNat,by omega⟩
 have wB:m<2^64:=by omega
 rw[DB (by omega),FZ]
 have key:=LV (b:=b) wB
 unfold nW
 have e:IntKind.u64.bits=64:=rfl
 rw[e,IntWalk.u64_in _ (by omega),zY,Nat.min_eq_left (by omega)]
 have e3:(m:Int).fdiv (2^b)=((m/2^b:Nat):Int):=by
  rw[show((2:Int)^b)=((2^b:Nat):Int) by simp]
  rw[Int.fdiv_eq_ediv_of_nonneg _ (Int.natCast_nonneg _)]
  rfl
 rw[e3]
 by_cases hz:m/2^b=0
 ·rw[key.2 hz,hz];simp
 ·have XT:ta m (2^b-1)≠0:=fun h=>hz (key.1 h)
  have hb:b<64:=by
   rcases Nat.lt_or_ge b 64 with h |h
   ·exact h
   ·exact absurd (Nat.div_eq_of_lt (Nat.lt_of_lt_of_le wB (Nat.pow_le_pow_right (by decide) h))) hz
  have a1:((m/2^b:Nat):Int)≠0:=by omega
  have a2:((ta m (2^b-1):Nat):Int)≠0:=by omega
  rw[bne_iff_ne.2 a1,bne_iff_ne.2 a2,zL (by omega)];rfl
theorem LU(b:Nat):lE 0 b=0:=by
 have:=FZ 0 b
 rw[show((0:Nat):Int)=0 from rfl]at this
 rw[this]
 have:ta 0 b=0:=by
  apply Nat.eq_of_testBit_eq
  intro i
  rw[xc];simp
 rw[this];rfl
theorem JQ{b:Int}{o:bI}(h0:0<=b)(h1:b<=64)(hm:xg o):tE b o=(s9 b o||iG o):=by
 obtain⟨m0,m1,v0,v1⟩:=hm
 have hk:(decide (o.kind<1)||decide (3<o.kind))=!(o.kind==1||o.kind==2||o.kind==3):=by
  by_cases h1:o.kind=1
  ·simp[h1]
  by_cases h2:o.kind=2
  ·simp[h2]
  by_cases h3:o.kind=3
  ·simp[h3]
  rw[beq_eq_false_iff_ne.2 h1,beq_eq_false_iff_ne.2 h2,beq_eq_false_iff_ne.2 h3]
  by_cases h4:o.kind<1
  ·simp[h4]
  ·simp;omega
 unfold tE s9
 rw[hk,Ja h0 h1 m0 m1]
 obtain⟨b,rfl⟩:∃n:Nat,b=n:=⟨b.toNat,by omega⟩
 have a1:o.cT=0->lE o.cT (pM b)=0:=fun h=>by rw[h,DB (by omega)];exact LU _
 have a2:o.value=0->lE o.value o.cT=0:=fun h=>by
  rw[h]
  obtain⟨m,hm⟩:∃n:Nat,o.cT=n:=⟨o.cT.toNat,by omega⟩
  rw[hm];exact LU _
 generalize (!(o.kind==1||o.kind==2||o.kind==3))=kn
 by_cases wC:o.cT=0
 ·by_cases Ub:o.value=0
  ·rw[a1 wC,a2 Ub,wC,Ub]
   cases kn<;>cases o.cond<;>simp
  ·rw[a1 wC,wC]
   have:(o.value==0)=false:=beq_eq_false_iff_ne.2 Ub
   cases kn<;>cases o.cond<;>simp[bne,this]
 ·have hm':(o.cT==0)=false:=beq_eq_false_iff_ne.2 wC
  cases kn<;>cases o.cond<;>simp[bne,hm']
theorem I4{q b:Int}{o:bI}(h0:0<=b)(h1:b<=64)(hm:xg o):oJ q b o=jJ q b o:=by
 unfold oJ jJ pE
 rw[JQ h0 h1 hm]
 cases s9 b o<;>cases iG o<;>rfl
theorem wZ{q b:Int}(h0:0<=b)(h1:b<=64):∀{l:List bI}{i:Nat}{n:Int},(∀o∈l,xg o)->la q b l i n=h_ q b l i n
 |[],_,_,_=>rfl
 |o::l,i,n,h=>by
  simp only[la,h_,I4 h0 h1 (h o (by simp))]
  rw[wZ h0 h1 (l:=l) (fun z hz=>h z (List.mem_cons_of_mem _ hz))]
theorem By{q b:Int}{l:List bI}(h:∀o∈l,xg o):oK q b l=fg q b l:=by
 unfold oK fg
 by_cases k:q<0\/64<q\/b<0\/64<b
 ·rw[zX k,zX k]
 ·rw[zW k,zW k,wZ (by omega) (by omega) h]
end
end Go.Proofs.YtjehibknlmehmaaGreatDoor
