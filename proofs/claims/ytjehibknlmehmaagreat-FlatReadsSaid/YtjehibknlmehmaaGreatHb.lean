/- The document writes out what the plain form says. No condition. -/
import Derived.Test.YtjehibknlmehmaaGreatHa
set_option maxRecDepth 100000
namespace Go.Proofs.YtjehibknlmehmaaGreat
section
open Go.Ab
attribute [-simp] aV aE
def TR(t:TypeId):Bool:=t==56||t==36||t==3
structure RW (n0:Nat) (h:AH) (b:Nat) (xr:AV) (bk:Bk) (xq xb xd:AV) (yl:List (bS×AV)) (l:OL) (pl er:Int) (many:Bool) (xo xp:AV):Prop where
 n:n0<=b/\dC (n0<=·) xo/\dC (n0<=·) xp
 b:h.obj b=some (Fq xr xq xb xd pl er many xo xp)
 q:cl ke 3 104 h xq bk.qs
 s:cl ke 3 104 h xb bk.bs
 d:DT h xd bk.ds yl
 x:cl cX 1 3 h xp (l.map (·.2))
 o:∃ol:List (eY×AV),cl ch 7 36 h xo ol/\ol.map (·.1)=l.map (·.1)/\∀y∈ol,cK cX 1 3 h y.2 y.1.aN/\Sep xp y.2
 len:l.length<=4096
def SW(b:Nat)(xo xp:AV)(id:Nat):Prop:=id=b\/(∃off n,xo=.sl id off n)\/∃off n,xp=.sl id off n
theorem SW.trans{h h1 h2:AH}{b:Nat}{xo xp iG jD:AV}(f1:Fr h h1 (SW b xo xp))(hn:∀id,SW b iG jD id->SW b xo xp id\/h.next<=id)(f2:Fr h1 h2 (SW b iG jD)):Fr h h2 (SW b xo xp):=f1.trans (f2.mono hn)
theorem SW.aU{h h1:AH}{b:Nat}{xo xp:AV}(f:Fr h h1 fun _=>False):Fr h h1 (SW b xo xp):=f.mono fun _ h=>h.elim
def WP(n0:Nat)(xr:AV)(bk:Bk)(xq xb xd:AV)(yl:List (bS×AV))(b:Nat)(h0:AH)(xo0 Xt:AV)(h:AH)(res:Except Int OL):Prop:=
 match res with
 |.ok l=>∃xo xp,RW n0 h b xr bk xq xb xd yl l 0 0 false xo xp/\∀id,SW b xo xp id->SW b xo0 Xt id\/h0.next<=id
 |.error e=>∃l xo xp,RW n0 h b xr bk xq xb xd yl l e 115 true xo xp
section
variable {n0:Nat} {h h':AH} {b:Nat} {xr:AV} {bk:Bk} {xq xb xd:AV} {yl:List (bS×AV)} {l:OL} {pl er:Int} {many:Bool} {xo xp:AV}
theorem RW.ba(a:RW n0 h b xr bk xq xb xd yl l pl er many xo xp)(f:Fr h h' fun _=>False):RW n0 h' b xr bk xq xb xd yl l pl er many xo xp:=by
 obtain⟨ol,o1,o2,o3⟩:=a.o
 exact⟨a.n,f.bU a.b,a.q.aU f fun _ _ h=>h,a.s.aU f fun _ _ h=>h,a.d.ba f,a.x.aU f fun _ _ h=>h,⟨ol,o1.aU f fun _ _ h=>h,o2,fun y hy=>⟨(o3 y hy).1.ba f,(o3 y hy).2⟩⟩,a.len⟩
theorem RT.If{rs:List (Row×AV)}(a:RT h xr rs)(f:Fr h h' (TW TR n0 h)):RT h' xr rs:=⟨a.r.pM f rfl,fun y hy=>⟨(a.a y hy).1.pM f rfl,(a.a y hy).2⟩,a.n⟩
theorem RW.gH(a:RW n0 h b xr bk xq xb xd yl l pl er many xo xp):aY xo=false/\∀K:AV->Prop,bL xo K=K (I l.length):=by
 obtain⟨ol,o1,o2,_⟩:=a.o
 have zh:ol.length=l.length:=by have:=congrArg List.length o2;simpa using this
 rw[<-zh]
 exact o1.dr.len
theorem RW.sw(a:RW n0 h b xr bk xq xb xd yl l pl er many xo xp){id:Nat}(hs:SW b xo xp id):TW TR n0 h id:=by
 rcases hs with rfl |⟨off,n,e⟩ |⟨off,n,e⟩
 ·exact⟨a.n.1,_,a.b,rfl,rfl⟩
 ·obtain⟨ol,o1,_⟩:=a.o
  rcases o1 with⟨e1,_⟩ |⟨j,e1,ho⟩
  ·rw[e1]at e;cases e
  ·rw[e1]at e;cases e
   exact⟨a.n.2.1 _ _ _ e1,_,ho,rfl,rfl⟩
 ·rcases a.x with⟨e1,_⟩ |⟨j,e1,ho⟩
  ·rw[e1]at e;cases e
  ·rw[e1]at e;cases e
   exact⟨a.n.2.2 _ _ _ e1,_,ho,rfl,rfl⟩
theorem RW.tw(a:RW n0 h b xr bk xq xb xd yl l pl er many xo xp)(f:Fr h h' (SW b xo xp)):Fr h h' (TW TR n0 h):=f.mono fun _ hs=>a.sw hs
theorem RW.dH(a:RW n0 h b xr bk xq xb xd yl l pl er many xo xp)(f:Fr h h' (SW b xo xp)){z:AV}{zl:List Int}(hz:cK cX 1 3 h z zl)(hs:Sep xp z):cK cX 1 3 h' z zl/\∀fq fp,(∀id,SW b fq fp id->SW b xo xp id\/h.next<=id)->Sep fp z:=by
 have no:∀id off n,z=.sl id off n->∀o,h.obj id=some o->(o.ro=false->o.ty=3)->¬SW b xo xp id:=fun id off n e o ho ht hsw=>by
  rcases hsw with rfl |⟨uv,n',e'⟩ |⟨uv,n',e'⟩
  ·rw[a.b]at ho;cases ho
   exact absurd (ht rfl) (show(56:Nat)≠3 by decide)
  ·obtain⟨ol,o1,_⟩:=a.o
   rcases o1 with⟨e1,_⟩ |⟨j,e1,hj⟩
   ·rw[e1]at e';cases e'
   ·rw[e1]at e';cases e'
    rw[hj]at ho;cases ho
    exact absurd (ht rfl) (show(36:Nat)≠3 by decide)
  ·exact hs _ _ _ _ _ e' e
 rcases hz with⟨rfl,rfl⟩ |⟨x,c,rfl,rfl⟩ |⟨id,rest,ro,mC,rfl,ht,ho⟩
 ·exact⟨.inl ⟨rfl,rfl⟩,fun _ _ _ _ _ _ _ _ _ e=>by cases e⟩
 ·exact⟨.inr (.inl ⟨x,c,rfl,rfl⟩),fun _ _ _ _ _ _ _ _ _ e=>by cases e⟩
 ·have je:=no id 0 _ rfl _ ho ht
  refine⟨.inr (.inr ⟨id,rest,ro,mC,rfl,ht,f.obj ho je⟩),fun fq fp hn i off n uv n' e1 e2=>?_⟩
  cases e2
  rcases hn id (.inr (.inr ⟨_,_,e1⟩)) with h1 |h1
  ·exact je h1
  ·have:=h.lt _ _ ho
   omega
theorem RW.MY(a:RW n0 h b xr bk xq xb xd yl l pl er many xo xp){off:Nat}{v:AV}{fP GC:Int}{vI:Bool}(hv:(Fq xr xq xb xd pl er many xo xp).cells.set off v=(Fq xr xq xb xd fP GC vI xo xp).cells):RW n0 (h.put b off [v]) b xr bk xq xb xd yl l fP GC vI xo xp/\Fr h (h.put b off [v]) (SW b xo xp):=by
 have f:Fr h (h.put b off [v]) (·=b):=Fr.refl.put (.inl rfl)
 have o:=dz (off:=off) (cs:=[v]) a.b
 generalize h.put b off [v]=h1 at *
 have g:Fr h h1 (SW b xo xp):=f.mono fun _ e=>.inl e
 have ne:∀{j:Nat}{o:AO},h.obj j=some o->o.ty≠56->¬j=b:=fun ho ht e=>by subst e;rw[a.b]at ho;cases ho;exact ht rfl
 obtain⟨ol,o1,o2,o3⟩:=a.o
 refine⟨⟨a.n,?_,dy a.q f fun _ _ ho ht _=>ne ho (by rw[ht];decide),dy a.s f fun _ _ ho ht _=>ne ho (by rw[ht];decide),a.d.Ce f fun _ _ ho ht=>ne ho (by rcases ht with e |e<;>rw[e]<;>decide),dy a.x f fun _ _ ho ht _=>ne ho (by rw[ht];decide),
  ⟨ol,dy o1 f fun _ _ ho ht _=>ne ho (by rw[ht];decide),o2,fun y hy=>⟨(o3 y hy).1.fr f fun id o ho ht e=>?_,(o3 y hy).2⟩⟩,a.len⟩,g⟩
 ·rw[o]
  simp only[aP]at hv
  simp only[bt,hv]
 ·subst e
  have hb:=a.b
  rw[ho]at hb;cases hb
  exact absurd (ht rfl) (show(56:Nat)≠3 by decide)
end
section
variable {h:AH} {M:Nat->Prop} {R:AE->AH->Prop} {n0 b:Nat} {xr xo xp xf:AV} {bk:Bk} {xq xb xd:AV} {yl:List (bS×AV)} {l:OL} {place:Int} {o:eY}
theorem HG(rw:RW n0 h b xr bk xq xb xd yl l 0 0 false xo xp)(hq:cK cX 1 3 h xf o.aN)(sep:Sep xp xf)(hM:∀id,SW b xo xp id->M id)
  (hR:∀h',WP n0 xr bk xq xb xd yl b h xo xp h' (j8 l o place)->Fr h h' (SW b xo xp)->R (.ret (.dD [])) h') :
  aA Pg 45 [.ptr b 0,.agg (ch (o,xf)),I place] h M R:=by
 apply wX.aM
 unfold wX.n9
 refine dV (kC hq.one.1) fun vo h1 f1 mo oo=>?_
 have eW:=rw.ba f1
 have HX:=hq.ba f1
 have mb:M b:=hM b (.inl rfl)
 unfold j8 at hR
 simp only[wX.n8,aC,aj,au,eW.b,ap,zG,zA,zB,aa,wX.n7,al,zE,zD,zC,zH,wX.n6,eW.gH.1,eW.gH.2,eG]
 by_cases k1:l.length=4096
 ·rw[zX k1]at hR
  have eI:((l.length:Int)==4096)=true:=by rw[k1];rfl
  simp only[eI,wX.n5,al,zD,zF,zC,zI,wX.n4,aC,aj,aE,eW.b,ns,bz,zG]
  refine⟨⟨.inl mb,rfl,rfl,by simp⟩,?_⟩
  obtain⟨ma,f2⟩:=eW.MY (off:=6) (v:=B true) (fP:=0) (GC:=0) (vI:=true) rfl
  generalize h1.put b 6 [B true]=h2 at *
  simp only[wX.n3,aC,aj,aE,ma.b,dt,bz,zG]
  refine⟨⟨.inl mb,rfl,rfl,by simp⟩,?_⟩
  obtain⟨qY,f3⟩:=ma.MY (off:=4) (v:=I place) (fP:=place) (GC:=0) (vI:=true) rfl
  generalize h2.put b 4 [I place]=h3 at *
  simp only[qY.b,dt,bz]
  refine⟨⟨.inl mb,rfl,rfl,by simp⟩,?_⟩
  obtain⟨uI,f4⟩:=qY.MY (off:=5) (v:=I 115) (fP:=place) (GC:=115) (vI:=true) rfl
  generalize h3.put b 5 [I 115]=h4 at *
  exact hR h4 ⟨l,xo,xp,uI⟩ (SW.trans (SW.aU f1) (fun _ h=>.inl h) (SW.trans f2 (fun _ h=>.inl h) (SW.trans f3 (fun _ h=>.inl h) f4)))
 ·rw[zW k1]at hR
  have eI:((l.length:Int)==4096)=false:=by
   have:¬(l.length:Int)=4096:=by omega
   simpa using this
  obtain⟨ol,o1,o2,o3⟩:=eW.o
  have zh:ol.length=l.length:=by have:=congrArg List.length o2;simpa using this
  have hlen:=rw.len
  simp only[eI,wX.n5,al,zE,zD,zC,zH,wX.n2,aC,aj,au,eW.b,ap,zG,zA,zB,aa]
  refine dW oo rfl fun _=>?_
  refine qA (f:=ch) (t:=(o,xf)) gX (by omega) rfl (by omega) rfl (kC hq.one.1) o1 ?_ (by omega) fun y h6 hy HS f6=>?_
  ·intro id off n e
   rcases o1 with⟨e1,_⟩ |⟨j,e1,ho⟩
   ·rw[e1]at e;cases e
   ·rw[e1]at e;cases e
    exact .inl (hM _ (.inr (.inl ⟨_,_,e1⟩)))
  ·have oy:[y].all cR=true:=by show(cR y&&true)=true;rw[hy.dr.one.1];rfl
   have b6:=f6.obj eW.b (iS o1 eW.b (show(56:Nat)≠36 by decide))
   have g6:Fr h h6 (TW TR n0 h):=by
    refine TW.trans (TW.aU f1) (f6.mono fun i ⟨off,n,e⟩=>?_)
    rcases o1 with⟨e1,_⟩ |⟨j,e1,ho⟩
    ·rw[e1]at e;cases e
    ·rw[e1]at e;cases e
     exact⟨rw.n.2.1 _ _ _ e1,_,ho,rfl,rfl⟩
   have no:∀{id:Nat}{p:AO},h1.obj id=some p->p.ty≠36->¬ ∃off n,xo=.sl id off n:=fun ho ht=>iS o1 ho ht
   have x6:=dy eW.x f6 fun _ _ ho ht _=>no ho (by rw[ht];decide)
   have qq6:=dy eW.q f6 fun _ _ ho ht _=>no ho (by rw[ht];decide)
   have ss6:=dy eW.s f6 fun _ _ ho ht _=>no ho (by rw[ht];decide)
   have dd6:=eW.d.Ce f6 fun _ _ ho ht=>no ho (by rcases ht with e |e<;>rw[e]<;>decide)
   have q6:∀{z:AV}{zl:List Int},cK cX 1 3 h1 z zl->cK cX 1 3 h6 z zl:=fun hz=>hz.fr f6 fun id o ho ht ⟨off,n,e⟩=>by
    rcases o1 with⟨e1,_⟩ |⟨j,e1,hj⟩
    ·rw[e1]at e;cases e
    ·rw[e1]at e;cases e
     rw[hj]at ho;cases ho
     exact absurd (ht rfl) (show(36:Nat)≠3 by decide)
   simp only[aC,aj,aE,b6,hy.dr.one.2,bz,zG]
   refine⟨⟨.inl mb,oy,rfl,by simp⟩,?_⟩
   have f7:Fr h6 (h6.put b 7 [y]) (·=b):=Fr.refl.put (.inl rfl)
   have b7:=dz (off:=7) (cs:=[y]) b6
   generalize h6.put b 7 [y]=h7 at *
   have g7:=TW.trans g6 (TW.jm (T:=TR) f7 rw.n.1 b6 rfl rfl)
   have nb:∀{j:Nat}{o:AO},h6.obj j=some o->o.ty≠56->¬j=b:=fun ho ht e=>by subst e;rw[b6]at ho;cases ho;exact ht rfl
   have x7:=dy x6 f7 fun _ _ ho ht _=>nb ho (by rw[ht];decide)
   have qq7:=dy qq6 f7 fun _ _ ho ht _=>nb ho (by rw[ht];decide)
   have ss7:=dy ss6 f7 fun _ _ ho ht _=>nb ho (by rw[ht];decide)
   have dd7:=dd6.Ce f7 fun _ _ ho ht=>nb ho (by rcases ht with e |e<;>rw[e]<;>decide)
   have y7:=dy hy f7 fun _ _ ho ht _=>nb ho (by rw[ht];decide)
   have q7:∀{z:AV}{zl:List Int},cK cX 1 3 h6 z zl->cK cX 1 3 h7 z zl:=fun hz=>hz.fr f7 fun id o ho ht e=>by
    subst e
    rw[b6]at ho;cases ho
    exact absurd (ht rfl) (show(56:Nat)≠3 by decide)
   simp only[wX.n1,aC,aj,au,b7,bt,List.set_cons_zero,List.set_cons_succ,ap,zG,zA,zB,aa]
   refine qA (f:=cX) (t:=place) gJ (by omega) rfl (by omega) rfl rfl x7 ?_ (by simp only[zZ];omega) fun z h8 hz mJ f8=>?_
   ·intro id off n e
    rcases x7 with⟨e1,_⟩ |⟨j,e1,ho⟩
    ·rw[e1]at e;cases e
    ·rw[e1]at e;cases e
     exact .inl (hM _ (.inr (.inr ⟨_,_,e1⟩)))
   ·have oz:[z].all cR=true:=by show(cR z&&true)=true;rw[hz.dr.one.1];rfl
    have b8:=f8.obj b7 (iS x7 b7 (show(56:Nat)≠3 by decide))
    have g8:Fr h h8 (TW TR n0 h):=by
     refine TW.trans g7 (f8.mono fun i ⟨off,n,e⟩=>?_)
     rcases x7 with⟨e1,_⟩ |⟨j,e1,ho⟩
     ·rw[e1]at e;cases e
     ·rw[e1]at e;cases e
      exact⟨rw.n.2.2 _ _ _ e1,_,ho,rfl,rfl⟩
    have nx:∀{id:Nat}{p:AO},h7.obj id=some p->p.ty≠3->¬ ∃off n,xp=.sl id off n:=fun ho ht=>iS x7 ho ht
    have qq8:=dy qq7 f8 fun _ _ ho ht _=>nx ho (by rw[ht];decide)
    have ss8:=dy ss7 f8 fun _ _ ho ht _=>nx ho (by rw[ht];decide)
    have dd8:=dd7.Ce f8 fun _ _ ho ht=>nx ho (by rcases ht with e |e<;>rw[e]<;>decide)
    have y8:=dy y7 f8 fun _ _ ho ht _=>nx ho (by rw[ht];decide)
    simp only[aC,aj,aE,b8,hz.dr.one.2,bz,zG]
    refine⟨⟨.inl mb,oz,rfl,by simp⟩,?_⟩
    have f9:Fr h8 (h8.put b 8 [z]) (·=b):=Fr.refl.put (.inl rfl)
    have b9:=dz (off:=8) (cs:=[z]) b8
    generalize h8.put b 8 [z]=h9 at *
    have g9:=TW.trans g8 (TW.jm (T:=TR) f9 rw.n.1 b8 rfl rfl)
    have KL:∀{j:Nat}{o:AO},h8.obj j=some o->o.ty≠56->¬j=b:=fun ho ht e=>by subst e;rw[b8]at ho;cases ho;exact ht rfl
    have q9:∀{z:AV}{zl:List Int},cK cX 1 3 h8 z zl->cK cX 1 3 h9 z zl:=fun hz=>hz.fr f9 fun id o ho ht e=>by
     subst e
     rw[b8]at ho;cases ho
     exact absurd (ht rfl) (show(56:Nat)≠3 by decide)
    have Fc:∀{v:AV}{zl:List Int},cK cX 1 3 h1 v zl->Sep xp v->cK cX 1 3 h9 v zl/\Sep z v:=fun{v zl} hv hs=>by
     have LI:cK cX 1 3 h7 v zl:=q7 (q6 hv)
     exact⟨q9 (Tu LI f8 hs),CO mJ LI⟩
    have lt:∀{a b:AH}{S:Nat->Prop},Fr a b S->∀{x:AV},dC (b.next<=·) x->dC (a.next<=·) x:=fun f x hx id off n e=>zR f.next (hx _ _ _ e)
    have s6:Fr h h6 (SW b xo xp):=(SW.aU f1).trans (f6.mono fun _ e=>.inl (.inr (.inl e)))
    have s7:Fr h h7 (SW b xo xp):=s6.trans (f7.mono fun _ e=>.inl (.inl e))
    have s8:Fr h h8 (SW b xo xp):=s7.trans (f8.mono fun _ e=>.inl (.inr (.inr e)))
    have s9:Fr h h9 (SW b xo xp):=s8.trans (f9.mono fun _ e=>.inl (.inl e))
    refine hR h9 ⟨y,z,⟨⟨rw.n.1,fun id off n e=>?_,fun id off n e=>?_⟩,?_,?_,?_,?_,?_,⟨ol++[(o,xf)],?_,by simp[o2],fun v hv=>?_⟩,by simp only[List.length_append,List.length_singleton];omega⟩,fun id hid=>hid.elim (fun e=>.inl (.inl e)) fun hid=>.inr (hid.elim (fun⟨off,n,e⟩=>lt (TW.aU (T:=TR) (n0:=n0) f1) HS _ _ _ e) fun⟨off,n,e⟩=>lt g7 mJ _ _ _ e)⟩ s9
    ·have h1:=lt (TW.aU (T:=TR) (n0:=n0) f1) HS _ _ _ e
     have h2:=h.lt _ _ rw.b
     have h3:=rw.n.1
     omega
    ·have h1:=lt g7 mJ _ _ _ e
     have h2:=h.lt _ _ rw.b
     have h3:=rw.n.1
     omega
    ·simpa[bt] using b9
    ·exact dy qq8 f9 fun _ _ ho ht _=>KL ho (by rw[ht];decide)
    ·exact dy ss8 f9 fun _ _ ho ht _=>KL ho (by rw[ht];decide)
    ·exact dd8.Ce f9 fun _ _ ho ht=>KL ho (by rcases ht with e |e<;>rw[e]<;>decide)
    ·have:=dy hz f9 fun _ _ ho ht _=>KL ho (by rw[ht];decide)
     simpa using this
    ·exact dy y8 f9 fun _ _ ho ht _=>KL ho (by rw[ht];decide)
    ·rcases List.mem_append.1 hv with hv |hv
     ·exact Fc (o3 v hv).1 (o3 v hv).2
     ·have:=List.mem_singleton.1 hv
      subst this
      exact Fc HX sep
theorem Bz{x0 x2:AV}{rl:List gK}{a:Arg}(hx:cK ke 3 104 h x2 rl)(hl:rl.length<=100000000)(hs:∀r∈rl,1<=r.size/\0<=r.from_/\r.from_+r.size<=aK rl)(ht:aK rl<=64)(o_:gU rl a=0)
  (hR:∀h',Fr h h' (fun _=>False)->R (.ret (I (fR rl a))) h'):aA Pg 43 [x0,.agg a.enc,x2] h M R:=by
 apply Ml.aM
 unfold Ml.n3
 refine dV (cs:=a.enc) (Arg.hZ a) fun va h1 f1 _ oa=>?_
 obtain⟨g,hg,w1⟩:=HP hs ht o_
 unfold Ml.n2
 refine⟨fun _=>va,fun _ _=>by rw[oa];simp,?_⟩
 simp only[aj,au,oa,ap,zG,Arg.enc,zA,zB,aa,zH]
 refine⟨fun _=>False,fun _ h=>h.elim,sy (hx.ba f1) hl ?_ ?_⟩
 ·intro hn;rw[hg]at hn;cases hn
 ·intro i g' hi BY
  rw[hg]at BY;cases BY
  refine dJ (k:=1) (hx.ba f1) jL hi (by omega) rfl fun _=>?_
  simp only[aZ,w1,Ml.n1]
  simpa using hR h1 f1
end
end
section
open Go.Ab
attribute [-simp] aV aE
abbrev op0(w:hN):eY:=⟨0,ByteArray.empty,[],0,w.is,w.cQ,w.value⟩
abbrev se(w:hN):List AV:=ch (op0 w,aQ)
def O0(n0 b:Nat)(xr:AV)(bk:Bk)(xq xb xd:AV)(yl:List (bS×AV))(rs:List (Row×AV))(k n:Nat):Prop:=
 ∀(h:AH)(M:Nat->Prop)(R:AE->AH->Prop)(a:Nat)(d:bS)(uD:AV)(qs:List Int)(xz:AV)(w:hN)(pl:Int)(xo xp:AV)(l:OL),bk.ds[k]?=some d->RW n0 h b xr bk xq xb xd yl l 0 0 false xo xp->RT h xr rs->a+n<=rs.length ->
  cl iL 1 9 h uD d.params->cK cX 1 3 h xz qs->Sep xp xz->qs.length=d.params.length->GB bk k d.params (sg rs a n)->(∀id,SW b xo xp id->M id) ->
  (∀h',WP n0 xr bk xq xb xd yl b h xo xp h' (aW bk (rs.map (·.1)) k (d.params.zip qs) w pl (sg rs a n) l)->Fr h h' (SW b xo xp)->R (.ret (.dD [])) h') ->
  aA Pg 77 [.ptr b 0,.agg (la (d,uD)),I a,I (a+n),xz,.agg (se w),I pl] h M R
def Xc(bk:Bk)(k:Nat)(nm:ByteArray)(n:Nat):Prop:=(eB bk.ds nm=none/\0<cf nm)\/∃j d,j<k/\bk.ds[j]?=some d/\d.name=nm/\n=d.params.length/\cf nm=0
def EC(n0 b:Nat)(xr:AV)(bk:Bk)(xq xb xd:AV)(yl:List (bS×AV))(rs:List (Row×AV))(k:Nat):Prop:=
 ∀(h:AH)(M:Nat->Prop)(R:AE->AH->Prop)(nm:ByteArray)(qs:List Int)(xz:AV)(w:hN)(pl:Int)(xo xp:AV)(l:OL),RW n0 h b xr bk xq xb xd yl l 0 0 false xo xp->RT h xr rs ->
  cK cX 1 3 h xz qs->Sep xp xz->Xc bk k nm qs.length->(∀id,SW b xo xp id->M id) ->
  (∀h',WP n0 xr bk xq xb xd yl b h xo xp h' (jq bk (rs.map (·.1)) k nm qs w pl l)->Fr h h' (SW b xo xp)->R (.ret (.dD [])) h') ->
  aA Pg 44 [.ptr b 0,Sb nm,xz,.agg (se w),I pl] h M R
theorem GB.MN{bk:Bk}{k:Nat}{ps:List ByteArray}{r:Row}{l:List Row}(h:GB bk k ps (r::l))(hk:r.kind≠aT):r.kind=cn/\∀a∈r.args,fe a.name ps=true:=by
 cases h with
 |Tm h0 h1 h2 h3 h4=>exact⟨h0,h3⟩
 |Tz h0 h1 h2 h3=>exact absurd h0 hk
theorem Ip{n:ByteArray}:∀{ps:List ByteArray}{qs:List Int}{i j:Nat},gy n ps i=some (i+j)->ps.length=qs.length->qs[j]?=some (nY (ps.zip qs) n)
 |[],qs,i,j,h,_=>by cases h
 |p::ps,[],i,j,h,hl=>by simp at hl
 |p::ps,q::qs,i,j,h,hl=>by
  simp only[gy]at h
  unfold nY
  simp only[List.zip_cons_cons,List.find?_cons]
  by_cases e:n=p
  ·rw[zX e]at h
   have:j=0:=by have:=Option.some.inj h;omega
   subst this
   rw[zL e.symm];rfl
  ·rw[zW e]at h
   rw[zK (fun h=>e h.symm)]
   have h1:=(xM h).1
   obtain⟨m,hm⟩:∃m,j=m+1:=⟨j-1,by omega⟩
   subst hm
   have ih:=Ip (n:=n) (ps:=ps) (qs:=qs) (i:=i+1) (j:=m) (by rw[h];congr 1;omega) (by simpa using hl)
   unfold nY at ih
   simpa using ih
section
variable {n0 b:Nat} {xr:AV} {bk:Bk} {xq xb xd:AV} {yl:List (bS×AV)} {rs:List (Row×AV)} {k:Nat}
theorem Om(sc:SC bk rs)(H6:bk.ds.length<=100000000)(hB:∀j n,j<k->O0 n0 b xr bk xq xb xd yl rs j n):EC n0 b xr bk xq xb xd yl rs k:=by
 intro h M R nm qs xz w pl xo xp l rw rt hq sep tN hM hR
 apply tv.aM
 unfold tv.aS
 refine dV rfl fun vo h1 f1 mo oo=>?_
 have eW:=rw.ba f1
 have HX:=hq.ba f1
 simp only[tv.n9]
 refine⟨fun _=>False,fun _ h=>h.elim,oq ?_⟩
 simp only[ft,gt_iff_lt]
 rcases tN with⟨tN,F1⟩ |⟨j,d,hj,hd,zq,hlen,F1⟩
 ·rw[Ai tN]at hR
  simp only[zL F1,tv.n8,al,zD,zF,zC,zI,tv.n7,aj,aE,oo,dt,bz,zG]
  refine⟨⟨.inr mo,rfl,rfl,by simp[ch]⟩,?_⟩
  have f2:Fr h (h1.put vo 0 [I 1]) fun _=>False:=f1.put (.inr mo)
  have o2:=dz (off:=0) (cs:=[I 1]) oo
  generalize h1.put vo 0 [I 1]=h2 at *
  simp only[tv.n6,aj,aE,o2,kQ,bz,zG]
  refine⟨⟨.inr mo,rfl,rfl,by simp[ch]⟩,?_⟩
  have f3:Fr h (h2.put vo 1 [Sb nm]) fun _=>False:=f2.put (.inr mo)
  have o3:=dz (off:=1) (cs:=[Sb nm]) o2
  generalize h2.put vo 1 [Sb nm]=h3 at *
  simp only[tv.n5,aj,aE,o3,HX.one.2,bz,zG]
  refine⟨⟨.inr mo,by show(cR xz&&true)=true;rw[HX.one.1];rfl,rfl,by simp[ch]⟩,?_⟩
  have f4:Fr h (h3.put vo 2 [xz]) fun _=>False:=f3.put (.inr mo)
  have o4:=dz (off:=2) (cs:=[xz]) o3
  generalize h3.put vo 2 [xz]=h4 at *
  simp only[tv.n4]
  refine dW o4 rfl fun _=>?_
  refine⟨SW b xo xp,fun id hs _=>.inl (hM id hs),HG (o:=kx 1 nm qs 0 w) (xf:=xz) (rw.ba f4) (hq.ba f4) sep (fun _ h=>h) fun h5 hw f5=>?_⟩
  have fin:=hR h5 ?_ (SW.trans (SW.aU f4) (fun _ h=>.inl h) f5)
  ·simpa[aJ,mT,jQ] using fin
  ·cases jv:j8 l (kx 1 nm qs 0 w) pl with
   |ok l'=>
    rw[jv]at hw
    obtain⟨fq,fp,eS,gT⟩:=hw
    exact⟨fq,fp,eS,fun id hid=>(gT id hid).imp (fun h=>h) (zR f4.next)⟩
   |error e=>rw[jv]at hw;exact hw
 ·subst zq
  have aaM:¬0<cf d.name:=by omega
  rw[Ah sc.bf.i hd hj]at hR
  obtain⟨x,wC,xQ⟩:=eW.d.at_ hd
  obtain⟨a,n,ha,hn,Vc,U1⟩:=sc.dk j d hd
  have U9:te (rs.map (·.1)) d=sg rs a n:=by
   unfold te
   rw[ha,hn,po]
   congr 1
   omega
  rw[U9]at hR
  have ld:=(sc.bf.i.ok.ds d (zP hd)).2.2.2
  have follow:∀vd h2,Fr h1 h2 (fun _=>False)->h2.obj vd=some (aP (la (d,x)) 7 97)->tv.n2 (fun id=>M id\/h.next<=id) (aJ Pg [] R) (aJ Pg [] R) (fun _ _ _=>False) (fun v h=>R (.bW v) h) (.ptr b 0) xz (I pl) (.ptr vo 0) (.ptr vd 0) h2:=fun vd h2 f2 ov=>by
   have bX:=f1.cj f2
   simp only[tv.n2,aj,au,ov,ap,zG,la,zA,zB,aa,ft,gt_iff_lt]
   by_cases k1:d.ops=0
   ·rw[zX k1]at hR
    have eI:¬0<d.ops:=by omega
    simp only[zK eI,tv.n1,al,zE,zD,zC,zH]
    have fin:=hR h2 ⟨xo,xp,rw.ba bX,fun _ h=>.inl h⟩ (SW.aU bX)
    simpa[aJ,mT,jQ] using fin
   ·rw[zW k1]at hR
    have eI:0<d.ops:=by omega
    simp only[zL eI,tv.n1,al,zD,zF,zC,zI]
    refine dW ov rfl fun _=>?_
    simp only[aj,au,ov,ap,zG,la,zA,zB,aa,ha,hn]
    refine dW (f2.bU oo) rfl fun _=>?_
    refine⟨SW b xo xp,fun id hs _=>.inl (hM id hs),?_⟩
    have call:=hB j n hj h2 (SW b xo xp) (fun ae h'=>match ae with |.ret v=>aJ Pg [] R [] h' |.bW v=>R (.bW v) h') a d x qs xz w pl xo xp l hd (rw.ba bX) (rt.ba bX) (by simpa using Vc) (xQ.aU f2 fun _ _ h=>h) (hq.ba bX) sep hlen (by rw[po];exact U1) (fun _ h=>h) (fun h5 hw f5=>by
     have fin:=hR h5 ?_ (SW.trans (SW.aU bX) (fun _ h=>.inl h) f5)
     ·simpa[aJ,mT,jQ] using fin
     ·cases jv:aW bk (rs.map (·.1)) j (d.params.zip qs) w pl (sg rs a n) l with
      |ok l'=>
       rw[jv]at hw
       obtain⟨fq,fp,eS,gT⟩:=hw
       exact⟨fq,fp,eS,fun id hid=>(gT id hid).imp (fun h=>h) (zR bX.next)⟩
      |error e=>rw[jv]at hw;exact hw)
    have ee:la (d,x)=[Sb d.name,x,I a,I ((a:Int)+n),I d.depth,I d.ops,B !d.whole]:=by simp[la,ha,hn]
    rw[ee]at call
    exact call
  simp only[zK aaM,tv.n8,al,zE,zD,zC,zH,tv.n3]
  refine⟨fun _=>b,fun _ _=>by rw[eW.b];simp,?_⟩
  simp only[aC,aj,au,eW.b,ap,zG,zA,zB,aa,zH,zI]
  have ma:=eW
  have kn:∀{h3:AH}{M3:Nat->Prop}{R3:AE->AH->Prop},Fr h1 h3 (fun _=>False)->R3 (.ret (I j)) h3->aA Pg 75 [.ptr b 0,Sb d.name] h3 M3 R3:=fun f3 hr=>by
   have qY:=eW.ba f3
   have zo:=OA sc.bf.i hd
   refine tI qY.b rfl qY.d H6 (fun hn=>by rw[zo]at hn;cases hn) fun i d' hi tQ=>?_
   rw[zo]at tQ;cases tQ
   have:=IX sc.bf.i.nd hd hi rfl
   subst this
   exact hr
  refine⟨?_,?_⟩
  ·refine⟨fun _=>False,fun _ h=>h.elim,kn Fr.refl ?_⟩
   exact gD eW.d.t.dr jw (vS xQ.dr.one.1) wC rfl rfl (fun id hid=>.inr (zR f1.next hid)) fun vd h2 f2 _ ov=>follow vd h2 f2 ov
  ·have hv:=AH.b_ h1 (aP ([Value.string ⟨#[]⟩,.slice none 0 0,.int .i64 0,.int .i64 0,.int .i64 0,.int .i64 0,.bool false].map AV.sc) 7 97)
   rw[aV]
   refine⟨rfl,?_⟩
   have f2:Fr h1 (h1.alloc (aP ([Value.string ⟨#[]⟩,.slice none 0 0,.int .i64 0,.int .i64 0,.int .i64 0,.int .i64 0,.bool false].map AV.sc) 7 97)) (fun _=>False):=Fr.refl.alloc _
   generalize h1.alloc (aP ([Value.string ⟨#[]⟩,.slice none 0 0,.int .i64 0,.int .i64 0,.int .i64 0,.int .i64 0,.bool false].map AV.sc) 7 97)=h2 at *
   refine⟨fun _=>False,fun _ h=>h.elim,kn f2 ?_⟩
   have ma:=eW.ba f2
   refine jG ma.d.t.dr jw wC fun _=>?_
   simp only[aE,hv,eL,bz]
   refine⟨⟨.inr f1.next,vS xQ.dr.one.1,rfl,by simp⟩,?_⟩
   refine follow _ _ (f2.put (.inr (zU _))) ?_
   rw[dz hv]
   congr 1
end
end
section
open Go.Ab
attribute [-simp] aV aE
section
variable {n0:Nat} {h h' h1 h2:AH} {b:Nat} {xr:AV} {bk:Bk} {xq xb xd:AV} {yl:List (bS×AV)} {l:OL} {pl er:Int} {many:Bool} {xo xp:AV} {res:Except Int OL}
theorem WP.cases(a:WP n0 xr bk xq xb xd yl b h xo xp h' res):(∃l fq fp,res=.ok l/\RW n0 h' b xr bk xq xb xd yl l 0 0 false fq fp/\∀id,SW b fq fp id->SW b xo xp id\/h.next<=id)\/∃e l fq fp,res=.error e/\RW n0 h' b xr bk xq xb xd yl l e 115 true fq fp:=by
 cases res with
 |ok l=>obtain⟨fq,fp,h1,h2⟩:=a;exact .inl ⟨l,fq,fp,rfl,h1,h2⟩
 |error e=>obtain⟨l,fq,fp,h1⟩:=a;exact .inr ⟨e,l,fq,fp,rfl,h1⟩
theorem WP.obj(a:WP n0 xr bk xq xb xd yl b h xo xp h' res):∃l pl er many fq fp,RW n0 h' b xr bk xq xb xd yl l pl er many fq fp:=by
 rcases a.cases with⟨l,fq,fp,_,h1,_⟩ |⟨e,l,fq,fp,_,h1⟩
 ·exact⟨_,_,_,_,_,_,h1⟩
 ·exact⟨_,_,_,_,_,_,h1⟩
theorem RW.fresh(a:RW n0 h b xr bk xq xb xd yl l pl er many xo xp){v:Nat}(hv:h.next<=v):¬SW b xo xp v:=fun hs=>by
 obtain⟨_,o,ho,_⟩:=a.sw hs
 have:=h.lt _ _ ho
 omega
theorem WP.base{iG jD:AV}(a:WP n0 xr bk xq xb xd yl b h1 iG jD h' res)(hx:h.next<=h1.next)(hn:∀id,SW b iG jD id->SW b xo xp id\/h.next<=id):WP n0 xr bk xq xb xd yl b h xo xp h' res:=by
 cases res with
 |ok l=>obtain⟨fq,fp,h1,h2⟩:=a;exact⟨fq,fp,h1,fun id hid=>(h2 id hid).elim (hn id) fun h=>.inr (zR hx h)⟩
 |error e=>exact a
end
theorem vX{f:OL->Except Int OL}{e:Int}:ll f (.error e)=.error e:=rfl
theorem pd{f:OL->Except Int OL}{l:OL}:ll f (.ok l)=f l:=rfl
section
variable {W:Nat->Prop} {QR QN:VK} {QE:Nat->VK} {QP:AV->AH->Prop} {h:AH} {n0 b vd vo vr:Nat} {xr xo xp xz uD x3:AV} {bk:Bk} {xq xb xd:AV} {yl:List (bS×AV)} {l:OL} {pl:Int} {rs:List (Row×AV)} {w:hN} {y:Row×AV} {k j kk:Nat} {d:bS} {qs:List Int}
structure IK (W:Nat->Prop) (h:AH) (n0 b vd vo vr:Nat) (xr xo xp xz uD:AV) (bk:Bk) (xq xb xd:AV) (yl:List (bS×AV)) (l:OL) (rs:List (Row×AV)) (w:hN) (y:Row×AV) (k:Nat) (d:bS) (qs:List Int):Prop where
 sc:SC bk rs
 rw:RW n0 h b xr bk xq xb xd yl l 0 0 false xo xp
 rt:RT h xr rs
 hd:bk.ds[k]?=some d
 od:h.obj vd=some (aP (la (d,uD)) 7 97)
 oo:h.obj vo=some (aP (se w) 7 36)
 bO:h.obj vr=some (aP (az y) 6 87)
 nd:¬SW b xo xp vd
 no:¬SW b xo xp vo
 nr:¬SW b xo xp vr
 hp:cl iL 1 9 h uD d.params
 hz:cK cX 1 3 h xz qs
 sep:Sep xp xz
 hl:qs.length=d.params.length
 hW:∀id,SW b xo xp id\/h.next<=id->W id
theorem SA(hB:O0 n0 b xr bk xq xb xd yl rs k kk)(i:IK W h n0 b vd vo vr xr xo xp xz uD bk xq xb xd yl l rs w y k d qs)(hj:j+1+kk<=rs.length)(xP:y.1.rows=kk)(hg:GB bk k d.params (sg rs (j+1) kk))(sP:y.1.num<=9223372036854775807)
  (hk:∀h',WP n0 xr bk xq xb xd yl b h xo xp h' (gv (aW bk (rs.map (·.1)) k (d.params.zip qs) w pl (sg rs (j+1) kk)) y.1.num.toNat l)->Fr h h' (SW b xo xp)->fx.n1 W QR QN QE QP (.ptr b 0) x3 xz (I pl) (.ptr vd 0) (.ptr vo 0) (I j) h') :
  fx.a_ W QR QN QE QP (.ptr b 0) x3 xz (I pl) (.ptr vd 0) (.ptr vo 0) (I j) (.ptr vr 0) h:=by
 unfold fx.a_ fx.bj
 have hlen:=i.rt.n
 generalize hT:gv (aW bk (rs.map (·.1)) k (d.params.zip qs) w pl (sg rs (j+1) kk)) y.1.num.toNat l=T at hk
 refine cy (ι:=Nat×Except Int OL) (fun q v h'=>v=[.ptr b 0,x3,xz,I pl,.ptr vd 0,.ptr vo 0,I j,.ptr vr 0,I (y.1.num.toNat-q.1:Nat)]/\q.1<=y.1.num.toNat/\WP n0 xr bk xq xb xd yl b h xo xp h' q.2/\ll (gv (aW bk (rs.map (·.1)) k (d.params.zip qs) w pl (sg rs (j+1) kk)) q.1) q.2=T/\Fr h h' (SW b xo xp)) (fun q=>q.1) (y.1.num.toNat,.ok l) ⟨by simp,zU _,⟨xo,xp,i.rw,fun _ h=>.inl h⟩,hT,Fr.refl⟩ ?_
 rintro K ⟨c,res⟩ v h1 ⟨rfl,hc,hw,bq,f1⟩ step
 simp only at hc hw bq step
 have kI:=f1.obj i.bO i.nr
 have g1:=i.rw.tw f1
 simp only[fx.iX,zN,zO,fx.aS,aj,au,kI,ap,zG,az,zA,zB,aa,bc]
 cases c with
 |zero=>
  have e1:decide (((y.1.num.toNat-0:Nat):Int)<y.1.num)=false:=by simp;omega
  have jv:res=T:=by
   rw[<-bq]
   cases res<;>rfl
  rw[jv]at hw
  simp only[e1,fx.n9,cA,zS,zE,zD,zC,zH,fx.n8,bK,if_false,fx.n7,al,zV,zN,zO]
  exact hk h1 hw f1
 |succ c=>
  have e1:decide (((y.1.num.toNat-(c+1):Nat):Int)<y.1.num)=true:=by simp;omega
  have w1:∀x:Int,0<=x/\x<=1000000000->IntKind.i64.wrap x=x:=fun x hx=>aR (by omega) (by omega)
  have w3:IntKind.i64.wrap (((y.1.num.toNat-(c+1):Nat):Int)+1)=((y.1.num.toNat-c:Nat):Int):=by rw[aR (by omega) (by omega)];omega
  rcases hw.cases with⟨l1,iG,jD,rfl,eW,iO⟩ |⟨e,l1,iG,jD,rfl,eW⟩
  ·simp only[pd,gv]at bq
   have K_:=i.rw.dH f1 i.hz i.sep
   have od1:=f1.obj i.od i.nd
   have oo1:=f1.obj i.oo i.no
   simp only[e1,fx.n9,cA,zS,zD,zF,zC,zI,aC,aj,au,eW.b,ap,zG,zA,zB,aa,dA,zT,fx.n8,bK,zV,fx.n7,al,fx.n6,eW.gH.1,eW.gH.2,zH,fx.n5]
   refine dW od1 rfl fun _=>?_
   simp only[aZ,w1 ((j:Int)+1) (by omega),aj,au,kI,ap,zG,az,zA,zB,aa,xP,w1 ((j:Int)+1+kk) (by omega)]
   refine dW oo1 rfl fun _=>?_
   refine⟨SW b iG jD,fun id hs _=>i.hW id (iO id hs),hB h1 _ _ (j+1) d uD qs xz w pl iG jD l1 i.hd eW (i.rt.If g1) hj (i.hp.pM g1 rfl) K_.1 (K_.2 _ _ iO) i.hl hg (fun _ h=>h) fun h2 uR f2=>?_⟩
   have bX:Fr h h2 (SW b xo xp):=SW.trans f1 iO f2
   have sM:=WP.base (h:=h) (xo:=xo) (xp:=xp) uR f1.next iO
   obtain⟨l2,mc,Vn,I0,lm,oP,ma⟩:=uR.obj
   have pY:∀l',aW bk (rs.map (·.1)) k (d.params.zip qs) w pl (sg rs (j+1) kk) l1=.ok l'->l'.length=l2.length:=fun l' tO=>by
    rw[tO]at uR
    obtain⟨JR,xp3,qY,_⟩:=uR
    have h1:=qY.gH.2 (fun v=>v=I l'.length)
    have h2:=ma.gH.2 (fun v=>v=I l'.length)
    have hb:=qY.b
    rw[ma.b]at hb
    have FL:lm=JR:=by
     have:=congrArg (fun o:Option AO=>(o.map (·.cells)).bind (·[7]?)) hb
     simpa[Fq,aP] using this
    rw[<-FL]at h1
    rw[h1]at h2
    have h3:=h2.mp rfl
    have:(l2.length:Int)=l'.length:=by injection h3 with h4;injection h4
    omega
   simp only[fx.n4,aC,aj,au,ma.b,ap,zG,zA,zB,aa,ma.gH.1,ma.gH.2,zH,eG]
   by_cases k1:l2.length=l1.length
   ·have eI:((l2.length:Int)==(l1.length:Int))=true:=by rw[k1];simp
    simp only[eI,fx.n3,al,zD,zF,zC,zI,zV,zN,zO]
    refine hk h2 ?_ bX
    cases hb:aW bk (rs.map (·.1)) k (d.params.zip qs) w pl (sg rs (j+1) kk) l1 with
    |ok l'=>
     rw[hb]at bq sM
     simp only at bq
     rw[zX (by rw[pY l' hb,k1])]at bq
     rw[<-bq];exact sM
    |error e=>
     rw[hb]at bq sM
     simp only at bq
     rw[<-bq];exact sM
   ·have eI:((l2.length:Int)==(l1.length:Int))=false:=by simp;omega
    simp only[eI,fx.n3,al,zE,zD,zC,zH,fx.n2,aZ,w3]
    refine step (c,aW bk (rs.map (·.1)) k (d.params.zip qs) w pl (sg rs (j+1) kk) l1) _ h2 (by simp only;omega) ⟨rfl,by simp only;omega,sM,?_,bX⟩
    cases hb:aW bk (rs.map (·.1)) k (d.params.zip qs) w pl (sg rs (j+1) kk) l1 with
    |ok l'=>
     rw[hb]at bq
     simp only at bq
     rw[zW (by rw[pY l' hb];exact k1)]at bq
     exact bq
    |error e=>
     rw[hb]at bq
     exact bq
  ·rw[vX]at bq
   rw[bq]at hw
   simp only[e1,fx.n9,cA,zS,zD,zF,zC,zI,aC,aj,au,eW.b,ap,zG,zA,zB,aa,dA,fx.n8,bK,zV,fx.n7,al,zE,zH,zN,zO]
   exact hk h1 hw f1
end
end
section
open Go.Ab
attribute [-simp] aV aE
theorem HN{m:Nat}{h:AH}{K:AV->AH->Prop}(hm:m<=100000000)(hK:∀y h',cl cX 1 3 h' y []->dC (h.next<=·) y->Fr h h' (fun _=>False)->K y h'):Cq (some (1,8,3,[.int .i64 0])) (I 0) (I m) h K:=by
 refine⟨⟨by omega,by omega,by omega,by omega,rfl,rfl⟩,?_⟩
 refine hK _ _ (.inr ⟨_,rfl,?_⟩) (fun id off n e=>?_) (Fr.refl.alloc _)
 ·exact AH.b_ h _
 ·cases e;exact zU _
section
variable {W:Nat->Prop} {QR QN:VK} {QE:Nat->VK} {QP:AV->AH->Prop} {h:AH} {n0 b vd vo vr:Nat} {xr xo xp xz uD x3:AV} {bk:Bk} {xq xb xd:AV} {yl:List (bS×AV)} {l:OL} {pl:Int} {rs:List (Row×AV)} {w:hN} {y:Row×AV} {k j kk:Nat} {d:bS} {qs:List Int}
theorem Sz(hA:EC n0 b xr bk xq xb xd yl rs k)(i:IK W h n0 b vd vo vr xr xo xp xz uD bk xq xb xd yl l rs w y k d qs)(hy:rs[j]?=some y)(hu:v_ bk k y.1)(hm:∀a∈y.1.args,fe a.name d.params=true)
  (hk:∀h',WP n0 xr bk xq xb xd yl b h xo xp h' (jq bk (rs.map (·.1)) k y.1.name (y.1.args.map fun a=>nY (d.params.zip qs) a.name) w pl l)->Fr h h' (SW b xo xp)->fx.n1 W QR QN QE QP (.ptr b 0) x3 xz (I pl) (.ptr vd 0) (.ptr vo 0) (I j) h') :
  fx.cP W QR QN QE QP (.ptr b 0) x3 xz (I pl) (.ptr vd 0) (.ptr vo 0) (I j) (.ptr vr 0) h:=by
 obtain⟨ha,hl⟩:=i.rt.a y (zP hy)
 have iw:=(i.sc.bf.i.ok.ds d (zP i.hd)).1
 simp only[fx.cP,aj,au,i.bO,ap,zG,az,zA,zB,aa,ha.len.1,ha.len.2,zH]
 refine HN hl fun x5 h1 wD pF f1=>?_
 unfold fx.cp fx.ck
 refine cy (ι:=Nat×AV) (fun q v h'=>v=[.ptr b 0,x3,xz,I pl,.ptr vd 0,.ptr vo 0,I j,.ptr vr 0,q.2,I q.1]/\q.1<=y.1.args.length/\Fr h h' (fun _=>False)/\cl cX 1 3 h' q.2 ((y.1.args.take q.1).map fun a=>nY (d.params.zip qs) a.name)/\dC (h.next<=·) q.2) (fun q=>y.1.args.length-q.1) (0,x5) ⟨rfl,by omega,f1,by simpa using wD,pF⟩ ?_
 rintro K ⟨q,x6⟩ v h2 ⟨rfl,hq,f2,hx,hs⟩ step
 simp only at hq hx hs step
 have jV:=f2.bU i.bO
 have ii:=ha.ba f2
 simp only[fx.pL,zN,zO,fx.b5,aj,au,jV,ap,zG,az,zA,zB,aa,ii.len.1,ii.len.2,zH,bc]
 by_cases aL:q<y.1.args.length
 ·have fH:(q:Int)<y.1.args.length:=by omega
  have g1:y.1.args[q]?=some y.1.args[q]:=zJ aL
  have gA:=List.getElem_mem aL
  have lA:y.1.args.take (q+1)=y.1.args.take q++[y.1.args[q]]:=by rw[List.take_add_one,g1];rfl
  generalize y.1.args[q]=a at *
  have w2:IntKind.i64.wrap ((q:Int)+1)=((q+1:Nat):Int):=by rw[aR (by omega) (by omega)];simp
  have P0:=f2.bU i.od
  simp only[zL fH,fx.bR,al,zD,zF,zC,zI,fx.bV,aj,au,P0,jV,ap,zG,la,az,zA,zB,aa]
  refine dJ (k:=0) ii Arg.bu g1 (by omega) rfl fun _=>?_
  refine⟨fun _=>False,fun _ h=>h.elim,Fg (i.hp.aU f2 fun _ _ h=>h).dr iw ?_⟩
  obtain⟨m,zo⟩:∃m,gy a.name d.params 0=some m:=by
   have:=hm a gA
   unfold fe at this
   exact Option.isSome_iff_exists.1 this
  rw[zo]
  have hqm:=Ip (n:=a.name) (ps:=d.params) (qs:=qs) (i:=0) (j:=m) (by simpa using zo) i.hl.symm
  refine ja (i.hz.ba f2) (fun _=>rfl) hqm rfl fun _=>?_
  refine qA (f:=cX) (t:=nY (d.params.zip qs) a.name) gJ (by omega) rfl (by omega) rfl rfl hx (fun id off n e=>i.hW id (.inr (hs id off n e))) (by rw[zZ,yA];omega) fun z h3 hz mJ f3=>?_
  have eO:Fr h h3 fun _=>False:=f2.trans (f3.mono fun j ⟨off,n,e⟩=>.inr (hs j off n e))
  simp only[fx.bP,aZ,w2]
  refine step (q+1,z) _ h3 (by simp only;omega) ⟨rfl,by simp only;omega,eO,?_,fun id off n e=>zR f2.next (mJ id off n e)⟩
  rw[lA,List.map_append]
  exact hz
 ·have eV:¬(q:Int)<y.1.args.length:=by omega
  have e:q=y.1.args.length:=by omega
  rw[e,List.take_length]at hx
  have ma:=i.rw.ba f2
  simp only[zK eV,fx.bR,al,zE,zD,zC,zH,zV,fx.bH,aj,au,jV,ap,zG,az,zA,zB,aa,zN,zO]
  refine dW (f2.bU i.oo) rfl fun _=>?_
  refine⟨SW b xo xp,fun id hs _=>i.hW id (.inl hs),hA h2 _ _ y.1.name _ x6 w pl xo xp l ma (i.rt.ba f2) hx.dr (qj i.rw.x hs) ?_ (fun _ h=>h) fun h3 hw f3=>?_⟩
  ·rcases hu with⟨u1,u2,_⟩ |⟨jj,d',u1,u2,u3,u4,u5⟩
   ·exact .inl ⟨u1,u2⟩
   ·exact .inr ⟨jj,d',u1,u2,u3,by simpa using u4,u5⟩
  ·exact hk h3 (hw.base f2.next fun id h=>.inl h) (SW.trans (SW.aU f2) (fun _ h=>.inl h) f3)
end
section
variable {n0 b:Nat} {xr:AV} {bk:Bk} {xq xb xd:AV} {yl:List (bS×AV)} {rs:List (Row×AV)} {k:Nat}
theorem Sc(sc:SC bk rs)(hA:EC n0 b xr bk xq xb xd yl rs k)(n:Nat):O0 n0 b xr bk xq xb xd yl rs k n:=by
 induction n using Nat.strongRecOn with
 |ind n ih=>
 intro h M R a d uD qs xz w pl xo xp l hd rw rt hn hp hz sep hl hg hM hR
 apply fx.aM
 unfold fx.dn
 refine dV (cs:=la (d,uD)) (vS hp.dr.one.1) fun vd ha fa UE od=>?_
 refine dV (cs:=se w) rfl fun vo hb fb mo oo=>?_
 have wU:=fa.cj fb
 have XG:=fb.bU od
 have PV:=rw.ba wU
 have nd:=rw.fresh UE
 have no:=rw.fresh (v:=vo) (zR fa.next mo)
 unfold fx.cU fx.c9
 have hlen:=rt.n
 generalize hT:aW bk (rs.map (·.1)) k (d.params.zip qs) w pl (sg rs a n) l=T at hR
 refine cy (ι:=Nat×Except Int OL) (fun q v h'=>v=[.ptr b 0,I (a+n),xz,I pl,.ptr vd 0,.ptr vo 0,I (a+(n-q.1:Nat):Int)]/\q.1<=n/\WP n0 xr bk xq xb xd yl b hb xo xp h' q.2/\GB bk k d.params (sg rs (a+(n-q.1)) q.1)/\ll (aW bk (rs.map (·.1)) k (d.params.zip qs) w pl (sg rs (a+(n-q.1)) q.1)) q.2=T/\Fr hb h' (SW b xo xp)) (fun q=>q.1) (n,.ok l) ⟨by simp,zU _,⟨xo,xp,PV,fun _ h=>.inl h⟩,by simpa using hg,by simpa[pd] using hT,Fr.refl⟩ ?_
 rintro K ⟨m,res⟩ v h1 ⟨rfl,hm,hw,lf,bq,f1⟩ step
 simp only at hm hw lf bq step
 have g1:=PV.tw f1
 have oS:=(rt.ba wU).If g1
 have fin:WP n0 xr bk xq xb xd yl b hb xo xp h1 T->aJ Pg [] R [] h1:=fun iV=>by
  have:=hR h1 (iV.base wU.next fun _ h=>.inl h) (SW.trans (SW.aU wU) (fun _ h=>.inl h) f1)
  simpa[aJ,mT,jQ] using this
 unfold fx.cG
 simp only[zN,zO,fx.cB,bc]
 cases m with
 |zero=>
  have e1:decide ((a:Int)+(n-0:Nat)<a+n)=false:=by simp
  have jv:res=T:=by
   rw[<-bq,vq]
   cases res with
   |error e=>rfl
   |ok l=>rw[pd,yn]
  rw[jv]at hw
  simp only[e1,fx.cC,cA,zS,zE,zD,zC,zH,fx.cF,bK,if_false,fx.cS,al,zV]
  exact fin hw
 |succ m=>
  obtain⟨j,hj⟩:∃j,j=a+(n-(m+1)):=⟨_,rfl⟩
  have ej:(a:Int)+(n-(m+1):Nat)=(j:Int):=by omega
  have e1:decide ((j:Int)<a+n)=true:=by simp;omega
  rw[<-hj]at bq lf
  obtain⟨y,hy⟩:∃y,rs[j]?=some y:=⟨rs[j]'(by omega),zJ _⟩
  rw[xj hy]at bq lf
  obtain⟨⟨b0,b1⟩,gd,gk⟩:=lf.inv
  have gu:=fun h=>lf.MN h
  rw[qX (by omega)]at b1
  obtain⟨kk,fI⟩:∃kk:Nat,y.1.rows=kk:=⟨y.1.rows.toNat,by omega⟩
  have lQ:kk<=m:=by omega
  rw[fI,zY,jR lQ]at gk
  rw[fI,zY,jS]at gd
  have w1:∀x:Int,0<=x/\x<=1000000000->IntKind.i64.wrap x=x:=fun x hx=>aR (by omega) (by omega)
  rcases hw.cases with⟨l1,iG,jD,rfl,eW,iO⟩ |⟨e,l1,iG,jD,rfl,eW⟩
  ·rw[pd,vW,fI,zY,jR lQ,jS]at bq
   simp only[e1,ej,fx.cC,cA,zS,zD,zF,zC,zI,aC,aj,au,eW.b,ap,zG,zA,zB,aa,dA,zT,fx.cF,bK,zV,fx.cS,al,fx.cL]
   have H_:∀id,SW b iG jD id\/h1.next<=id->(M id\/h.next<=id):=fun id hid=>by
    rcases hid with hid |hid
    ·rcases iO id hid with h' |h'
     ·exact .inl (hM id h')
     ·exact .inr (zR wU.next h')
    ·exact .inr (zR wU.next (zR f1.next hid))
   refine gD oS.r dT (oS.one hy) hy rfl rfl (fun id hid=>H_ id (.inr hid)) fun vr h3 f3 jp ko=>?_
   have qY:=eW.ba f3
   have K_:=PV.dH f1 (hz.ba wU) sep
   have P2:∀{v:Nat}{o:AO},hb.obj v=some o->¬SW b xo xp v->¬SW b iG jD v:=fun{v o} hv hns hs=>by
    rcases iO v hs with h' |h'
    ·exact hns h'
    ·have:=hb.lt _ _ hv;omega
   have ik:IK (fun id=>M id\/h.next<=id) h3 n0 b vd vo vr xr iG jD xz uD bk xq xb xd yl l1 rs w y k d qs:=
    ⟨sc,qY,oS.ba f3,hd,f3.bU (f1.obj XG nd),f3.bU (f1.obj oo no),ko,P2 XG nd,P2 oo no,eW.fresh jp,((hp.aU wU fun _ _ h=>h).pM g1 rfl).aU f3 fun _ _ h=>h,K_.1.ba f3,K_.2 _ _ iO,hl,
     fun id hid=>H_ id (hid.imp (fun h=>h) (zR f3.next))⟩
   have BS:∀h' CU,ll (aW bk (rs.map (·.1)) k (d.params.zip qs) w pl (sg rs (j+1+kk) (m-kk))) CU=T->WP n0 xr bk xq xb xd yl b h3 iG jD h' CU->Fr h3 h' (SW b iG jD) ->
     fx.n1 (fun id=>M id\/h.next<=id) (aJ Pg [] R) K (fun(i:Nat) (vs:List AV) (h:AH)=>if i=0 then aJ Pg [] R vs h else False) (fun v h=>R (.bW v) h) (.ptr b 0) (I (a+n)) xz (I pl) (.ptr vd 0) (.ptr vo 0) (I j) h':=fun h' CU tO iV f'=>by
    obtain⟨l2,mc,Vn,I0,lm,oP,ma⟩:=iV.obj
    have iP:Fr hb h' (SW b xo xp):=SW.trans f1 iO (SW.trans (SW.aU f3) (fun _ h=>.inl h) f')
    simp only[fx.n1,aC,aj,au,ma.b,ap,zG,zA,aa]
    refine dJ (k:=4) ((rt.ba wU).If (PV.tw iP)).r dT hy (by omega) rfl fun _=>?_
    rw[fI]
    simp only[aZ,w1 (1+(kk:Int)) (by omega),w1 ((j:Int)+(1+kk)) (by omega)]
    have e8:j+1+kk=a+(n-(m-kk)):=by omega
    have e9:(j:Int)+(1+kk)=a+(n-(m-kk):Nat):=by omega
    rw[e8]at tO gd
    exact step (m-kk,CU) _ h' (by simp only;omega) ⟨by rw[<-e9],by simp only;omega,iV.base (zR f1.next f3.next) (fun id hid=>(iO id hid)),gd,tO,iP⟩
   have e4:(⟨#[117,115,101]⟩:ByteArray)=cn:=rfl
   simp only[fx.cw,aj,au,ko,ap,zG,az,zA,zB,aa,br,e4]
   rcases gk with⟨k1,k2⟩ |⟨k1,k2⟩
   ·rw[zX k1]at bq
    have eI:¬y.1.kind=cn:=by rw[k1];decide
    simp only[zK eI,fx.cT,al,zE,zD,zC,zH]
    exact SA (ih kk (by omega)) ik (by omega) fI k2 (sc.nm y (zP hy)) fun h' iV f'=>BS h' _ bq iV f'
   ·rw[zW k1]at bq
    obtain⟨eI,mL⟩:=gu k1
    simp only[zL eI,fx.cT,al,zD,zF,zC,zI]
    exact Sz hA ik hy k2 mL fun h' iV f'=>BS h' _ bq iV f'
  ·rw[vX]at bq
   rw[bq]at hw
   simp only[e1,ej,fx.cC,cA,zS,zD,zF,zC,zI,aC,aj,au,eW.b,ap,zG,zA,zB,aa,dA,fx.cF,bK,zV,fx.cS,al,zE,zH]
   exact fin hw
theorem LK(sc:SC bk rs)(H6:bk.ds.length<=100000000):EC n0 b xr bk xq xb xd yl rs k:=by
 induction k using Nat.strongRecOn with
 |ind k ih=>exact Om sc H6 fun j n hj=>Sc sc (ih j hj) n
end
end
section
open Go.Ab
theorem Q5:IntKind.u64.bits=64:=rfl
theorem AU(a b:Nat)(ha:a<18446744073709551616)(hb:b<18446744073709551616):kE a b=((a &&& b:Nat):Int):=by
 unfold kE
 rw[Q5]
 have e:∀x:Nat,BitVec.ofInt 64 (x:Int)=BitVec.ofNat 64 x:=fun x=>by simp
 rw[e,e,BitVec.toNat_and,BitVec.toNat_ofNat,BitVec.toNat_ofNat,Nat.mod_eq_of_lt (by simpa using ha),Nat.mod_eq_of_lt (by simpa using hb)]
 have aL:a &&& b<18446744073709551616:=Nat.lt_of_le_of_lt Nat.and_le_left ha
 have hw:=IM ((a &&& b:Nat):Int)
 have e2:IntKind.u64.wrap ((a &&& b:Nat):Int)=((a &&& b:Nat):Int)%18446744073709551616:=by unfold IntKind.wrap;rfl
 rw[e2]
 omega
theorem C3(a b:Nat)(ha:a<18446744073709551616)(hb:b<18446744073709551616):wx a b=((a |||b:Nat):Int):=by
 unfold wx
 rw[Q5]
 have e:∀x:Nat,BitVec.ofInt 64 (x:Int)=BitVec.ofNat 64 x:=fun x=>by simp
 rw[e,e,BitVec.toNat_or,BitVec.toNat_ofNat,BitVec.toNat_ofNat,Nat.mod_eq_of_lt (by simpa using ha),Nat.mod_eq_of_lt (by simpa using hb)]
 have aL:a |||b<18446744073709551616:=Nat.or_lt_two_pow (n:=64) (by simpa using ha) (by simpa using hb)
 have e2:IntKind.u64.wrap ((a |||b:Nat):Int)=((a |||b:Nat):Int)%18446744073709551616:=by unfold IntKind.wrap;rfl
 rw[e2]
 omega
def mN(s f:Nat):Nat:=(2^s-1)*2^f
theorem BF{s f i:Nat}:(mN s f).testBit i=(decide (f<=i)&&decide (i<f+s)):=by
 unfold mN
 rw[Nat.testBit_mul_two_pow]
 by_cases h:f<=i
 ·rw[Nat.testBit_two_pow_sub_one]
  simp[h];omega
 ·simp[h]
theorem P9{s f:Nat}(h:s+f<=64):mN s f<18446744073709551616:=by
 unfold mN
 have h1:2^s*2^f<=2^64:=by rw[<-Nat.pow_add];exact Nat.pow_le_pow_right (by decide) h
 have h2:0<2^s:=Nat.two_pow_pos s
 have h3:0<2^f:=Nat.two_pow_pos f
 have h4:(2^s-1)*2^f+2^f=2^s*2^f:=by rw[<-Nat.succ_mul];congr 1;omega
 have h5:(2:Nat)^64=18446744073709551616:=by decide
 omega
theorem A9{x:Int}(h0:0<=x)(h1:x<18446744073709551616):IntKind.u64.wrap x=x:=by
 have e2:IntKind.u64.wrap x=x%18446744073709551616:=by unfold IntKind.wrap;rfl
 rw[e2];omega
theorem Dm(x:Int):IntKind.u64.wrap x=x%18446744073709551616:=by unfold IntKind.wrap;rfl
theorem sG(n:Nat):(2:Int)^n=((2^n:Nat):Int):=by simp
theorem IZ{g:gK}{s f:Nat}(hs:g.size=s)(hf:g.from_=f)(h1:1<=s)(h:s+f<=64):gR g=(mN s f:Nat):=by
 unfold gR
 rw[hs,hf,zY,zY,Nat.min_eq_left (by omega),Nat.min_eq_left (by omega),Int.one_mul,sG,sG]
 have h2:0<2^s:=Nat.two_pow_pos s
 have h4:IntKind.u64.wrap (IntKind.u64.wrap ((2^s:Nat):Int)-1)=((2^s-1:Nat):Int):=by
  have h3:2^s<=2^64:=Nat.pow_le_pow_right (by decide) (by omega)
  have h5:(2:Nat)^64=18446744073709551616:=by decide
  rw[Dm,Dm]
  generalize 2^s=P at *
  omega
 rw[h4]
 have h6:=P9 h
 unfold mN at h6 ⊢
 rw[show((2^s-1:Nat):Int)*((2^f:Nat):Int)=(((2^s-1)*2^f:Nat):Int) by simp]
 exact A9 (by omega) (by omega)
theorem J1{g:gK}{s f v:Nat}{n:Int}(hs:g.size=s)(hf:g.from_=f)(hn:n=v)(hv:v<2^s)(h:s+f<=64):valOf g n=((v*2^f:Nat):Int)/\v*2^f<18446744073709551616:=by
 unfold valOf
 have h1:v*2^f<2^s*2^f:=Nat.mul_lt_mul_of_pos_right hv (Nat.two_pow_pos f)
 have h2:2^s*2^f<=2^64:=by rw[<-Nat.pow_add];exact Nat.pow_le_pow_right (by decide) h
 have h5:(2:Nat)^64=18446744073709551616:=by decide
 have h6:v<=v*2^f:=Nat.le_mul_of_pos_right _ (Nat.two_pow_pos f)
 rw[hf,hn,zY,Nat.min_eq_left (by omega),sG,A9 (x:=(v:Int)) (by omega) (by omega)]
 rw[show((v:Nat):Int)*((2^f:Nat):Int)=((v*2^f:Nat):Int) by simp]
 exact⟨A9 (by omega) (by omega),by omega⟩
theorem Tk{s f v:Nat}(hv:v<2^s):v*2^f &&& mN s f=v*2^f:=by
 apply Nat.eq_of_testBit_eq
 intro i
 rw[Nat.testBit_and,BF,Nat.testBit_mul_two_pow]
 by_cases h:f<=i
 ·by_cases h2:i<f+s
  ·simp[h,h2]
  ·have:v.testBit (i-f)=false:=Nat.testBit_lt_two_pow (Nat.lt_of_lt_of_le hv (Nat.pow_le_pow_right (by decide) (by omega)))
   simp[h,h2,this]
 ·simp[h]
theorem Nk{s f s' f':Nat}(h:f+s<=f'\/f'+s'<=f):mN s f &&& mN s' f'=0:=by
 apply Nat.eq_of_testBit_eq
 intro i
 rw[Nat.testBit_and,BF,BF,Nat.zero_testBit]
 by_cases h1:f<=i<;>by_cases h2:i<f+s<;>by_cases h3:f'<=i<;>by_cases h4:i<f'+s'<;>simp[h1,h2,h3,h4]<;>omega
theorem Ub{s f:Nat}(h:1<=s):mN s f≠0:=fun e=>by
 have:=BF (s:=s) (f:=f) (i:=f)
 rw[e,Nat.zero_testBit]at this
 simp at this
 omega
theorem OS{M V m v:Nat}(h1:V &&& M=V)(h2:v &&& m=v)(h3:M &&& m=0\/M &&& m=m):(V &&& m=v &&& M)↔(M &&& m=0\/V &&& m=v):=by
 have e1:V &&& m=V &&& (M &&& m):=by rw[<-Nat.and_assoc,h1]
 have e2:v &&& M=v &&& (M &&& m):=by rw[Nat.and_comm M m,<-Nat.and_assoc,h2]
 rcases h3 with h3 |h3
 ·rw[e1,e2,h3];simp
 ·rw[e2,h3,h2]
  constructor
  ·exact .inr
  ·rintro(h |h)
   ·subst h
    simp at h2 ⊢
    exact h2
   ·exact h
end
section
open Go.Ab
def yD(bk:Bk):Prop:=bk.bs.Pairwise fun r r'=>r.from_+r.size<=r'.from_
theorem Ty{bk bN:Bk}{own:Option Nat}{i:Int}{r:Row}(a:li bk)(p:yD bk)(h:fO bk own i r=.ok bN):yD bN:=by
 have same:∀e,lF e bk=.ok bN->yD bN:=fun e h=>by
  unfold lF at h
  split at h<;>cases h
  exact p
 unfold fO at h
 split at h
 ·cases hd:fK bk bk.qs 64 r with
  |error e=>rw[hd]at h;cases h
  |ok l=>rw[hd]at h;cases h;exact p
 split at h
 ·cases hd:fK bk bk.bs 64 r with
  |error e=>rw[hd]at h;cases h
  |ok l=>
   rw[hd]at h;cases h
   unfold fK at hd
   split at hd
   ·cases hd
   split at hd
   ·cases hd
   split at hd
   ·cases hd
   cases hd
   unfold yD
   simp only
   rw[List.pairwise_append]
   refine⟨p,List.pairwise_singleton _ _,fun x hx y hy=>?_⟩
   have:=List.mem_singleton.1 hy
   subst this
   exact(a.ok.sb x hx).2.2
 split at h
 ·unfold qy at h
  split at h
  ·cases h
  split at h
  ·cases h
  split at h
  ·cases h
  split at h
  ·cases h
  cases h
  exact p
 split at h
 ·split at h
  ·cases h
  ·cases h;exact p
 split at h
 ·unfold uQ at h
  split at h
  ·cases h
  ·split at h
   ·cases h
   ·cases h;exact p
 split at h
 ·unfold kM at h
  split at h
  ·cases h
  split at h
  ·cases h
  split at h
  ·cases h
  split at h
  ·cases h
  split at h
  ·cases h
  split at h
  ·cases h
  cases h
  unfold kD
  cases own<;>exact p
 split at h
 ·unfold kT at h
  split at h
  ·split at h
   ·cases h
   ·exact same _ h
  ·cases h
 split at h
 ·unfold mY at h
  split at h
  ·exact same _ h
  ·cases h
 cases h
 exact p
theorem R4(n:Nat):∀{deep:Nat}{own:Option Nat}{i:Nat}{rows:List Row}{bk bN:Bk}(_:rows.length=n)(_:∀r∈rows,r.args.length<=100000000)(_:li bk)(_:yD bk)(_:eM deep own i rows bk=.ok bN),yD bN:=by
 induction n using Nat.strongRecOn with
 |ind n ih=>
 intro deep own i rows bk bN hn hl a p h
 cases rows with
 |nil=>rw[jI]at h;cases h;exact p
 |cons r rest=>
  rw[kc]at h
  split at h
  ·cases h
  split at h
  ·cases h
  rename_i lS h1
  split at h
  ·cases h
  rename_i fc h2
  rw[List.length_cons]at hn
  have p1:=Ty a p h1
  obtain⟨a1,_⟩:=oT a (hl r (List.mem_cons_self ..)) h1
  have FX:∀r'∈rest.take r.rows.toNat,r'.args.length<=100000000:=fun r' hr=>hl r' (List.mem_cons_of_mem _ (List.mem_of_mem_take hr))
  have pY:∀r'∈rest.drop r.rows.toNat,r'.args.length<=100000000:=fun r' hr=>hl r' (List.mem_cons_of_mem _ (List.mem_of_mem_drop hr))
  have p2:=ih _ (by rw[yA];omega) rfl FX a1 p1 h2
  obtain⟨a2,_,s2⟩:=qp _ rfl FX a1 h2
  by_cases k:r.kind=bD
  ·rw[zX k]at h
   exact ih _ (by rw[List.length_drop];omega) rfl pY (ua a2 s2).1 p2 h
  ·rw[zW k]at h
   exact ih _ (by rw[List.length_drop];omega) rfl pY a2 p2 h
structure WI (bk:Bk) (w:hN) (M V:Nat):Prop where
 m:w.cQ=M
 v:w.value=V
 hm:M<18446744073709551616
 hv:V<18446744073709551616
 i:V &&& M=V
 b:w.is=(w.cQ != 0)
 r:∀g∈bk.bs,∀s f:Nat,g.size=s->g.from_=f->M &&& mN s f=0\/M &&& mN s f=mN s f
theorem abB{bk:Bk}:WI bk ⟨false,0,0⟩ 0 0:=⟨rfl,rfl,by decide,by decide,rfl,rfl,fun g _ s f _ _=>.inl (Nat.zero_and _)⟩
theorem Rz{bk:Bk}(p:yD bk){g g':gK}(h:g∈bk.bs)(h':g'∈bk.bs):g=g'\/g.from_+g.size<=g'.from_\/g'.from_+g'.size<=g.from_:=by
 obtain⟨i,hi⟩:=List.mem_iff_getElem?.1 h
 obtain⟨j,hj⟩:=List.mem_iff_getElem?.1 h'
 obtain⟨i1,i2⟩:=zM.1 hi
 obtain⟨j1,j2⟩:=zM.1 hj
 have hp:=List.pairwise_iff_getElem.1 p
 rcases Nat.lt_trichotomy i j with aL |he |aL
 ·right;left
  have:=hp i j i1 j1 aL
  rw[i2,j2]at this;exact this
 ·subst he
  left;rw[<-i2,<-j2]
 ·right;right
  have:=hp j i j1 i1 aL
  rw[i2,j2]at this;exact this
theorem Xb{bk:Bk}{w:hN}{M V:Nat}(a:WI bk w M V)(ok:yE bk)(p:yD bk){g:gK}(hg:g∈bk.bs){n:Int}(h0:0<=n)(h1:g.size<63->n<2^g.size.toNat)(h2:n<=9223372036854775807) :
  ((kE w.value (gR g)≠kE (valOf g n) w.cQ)↔¬(kE w.cQ (gR g)=0\/kE w.value (gR g)=valOf g n))/\∃M' V',WI bk ⟨true,wx w.cQ (gR g),wx w.value (valOf g n)⟩ M' V':=by
 have hs:=ok.sb g hg
 have ht:=ok.tb
 obtain⟨s,es⟩:∃s:Nat,g.size=s:=⟨g.size.toNat,by omega⟩
 obtain⟨f,ef⟩:∃f:Nat,g.from_=f:=⟨g.from_.toNat,by omega⟩
 obtain⟨v,ev⟩:∃v:Nat,n=v:=⟨n.toNat,by omega⟩
 have Lg:s+f<=64:=by omega
 have hv:v<2^s:=by
  by_cases h:s<63
  ·have:=h1 (by omega)
   rw[es,zY,sG]at this
   omega
  ·have h3:2^63<=2^s:=Nat.pow_le_pow_right (by decide) (by omega)
   have h5:(2:Nat)^63=9223372036854775808:=by decide
   omega
 have em:=IZ es ef (by omega) Lg
 obtain⟨Yo,Ql⟩:=J1 es ef ev hv Lg
 have Ll:=P9 Lg
 have XT:=Tk (f:=f) hv
 have hr:=a.r g hg s f es ef
 generalize pX:mN s f=m at *
 generalize v*2^f=vv at *
 refine⟨?_,M |||m,V |||vv,⟨?_,?_,?_,?_,?_,?_,?_⟩⟩
 ·rw[em,Yo,a.m,a.v,AU _ _ a.hv Ll,AU _ _ Ql a.hm,AU _ _ a.hm Ll]
  have key:=OS a.i XT hr
  rw[ne_eq,not_congr]
  have c1:(((V &&& m:Nat):Int)=((vv &&& M:Nat):Int))↔V &&& m=vv &&& M:=by omega
  have c2:(((M &&& m:Nat):Int)=0)↔M &&& m=0:=by omega
  have c3:(((V &&& m:Nat):Int)=(vv:Int))↔V &&& m=vv:=by omega
  rw[c1,c2,c3]
  exact key
 ·simp only;rw[a.m,em,C3 _ _ a.hm Ll]
 ·simp only;rw[a.v,Yo,C3 _ _ a.hv Ql]
 ·exact Nat.or_lt_two_pow (n:=64) (by simpa using a.hm) (by simpa using Ll)
 ·exact Nat.or_lt_two_pow (n:=64) (by simpa using a.hv) (by simpa using Ql)
 ·apply Nat.eq_of_testBit_eq
  intro i
  have b1:=congrArg (fun x=>x.testBit i) a.i
  have b2:=congrArg (fun x=>x.testBit i) XT
  simp only[Nat.testBit_and]at b1 b2
  simp only[Nat.testBit_and,Nat.testBit_or]
  revert b1 b2
  cases V.testBit i<;>cases M.testBit i<;>cases vv.testBit i<;>cases m.testBit i<;>simp
 ·simp only
  rw[a.m,em,C3 _ _ a.hm Ll]
  have hp:=Ub (s:=s) (f:=f) (by omega)
  rw[pX]at hp
  have:M |||m≠0:=fun e=>hp (by
   apply Nat.eq_of_testBit_eq
   intro i
   have:=congrArg (fun x=>x.testBit i) e
   simp only[Nat.testBit_or,Nat.zero_testBit,Bool.or_eq_false_iff]at this
   rw[this.2,Nat.zero_testBit])
  have h3:¬(((M |||m:Nat):Int)=0):=by omega
  simpa using h3
 ·intro g' BY s' f' es' ef'
  have hold:=a.r g' BY s' f' es' ef'
  rcases Rz p hg BY with rfl |QK
  ·right
   have e1:s'=s:=by omega
   have e2:f'=f:=by omega
   subst e1;subst e2
   rw[pX]
   apply Nat.eq_of_testBit_eq
   intro i
   simp only[Nat.testBit_and,Nat.testBit_or]
   cases M.testBit i<;>cases m.testBit i<;>simp
  ·have hz:=Nk (s:=s) (f:=f) (s':=s') (f':=f') (by omega)
   rw[pX]at hz
   have e:(M |||m) &&& mN s' f'=M &&& mN s' f':=by
    apply Nat.eq_of_testBit_eq
    intro i
    have XO:=congrArg (fun x=>x.testBit i) hz
    simp only[Nat.testBit_and,Nat.zero_testBit]at XO
    simp only[Nat.testBit_and,Nat.testBit_or]
    revert XO
    cases M.testBit i<;>cases m.testBit i<;>cases (mN s' f').testBit i<;>simp
   rw[e]
   exact hold
end
section
open Go.Ab
attribute [-simp] aV aE
def V3(n0 b:Nat)(xr:AV)(bk:Bk)(xq xb xd:AV)(yl:List (bS×AV))(rs:List (Row×AV))(n:Nat):Prop:=
 ∀(h:AH)(M:Nat->Prop)(R:AE->AH->Prop)(a:Nat)(w:hN)(M0 V0:Nat)(xo xp:AV)(l:OL),WI bk w M0 V0->RW n0 h b xr bk xq xb xd yl l 0 0 false xo xp->RT h xr rs->a+n<=rs.length->GO bk (sg rs a n)->(∀id,SW b xo xp id->M id) ->
  (∀h',WP n0 xr bk xq xb xd yl b h xo xp h' (iA bk (rs.map (·.1)) w (sg rs a n) l)->Fr h h' (SW b xo xp)->R (.ret (.dD [])) h') ->
  aA Pg 16 [.ptr b 0,I a,I (a+n),U w.cQ,U w.value] h M R
section
variable {W:Nat->Prop} {QR QN:VK} {QE:Nat->VK} {QP:AV->AH->Prop} {h h0:AH} {n0 b vo vr:Nat} {xr xo xp x2:AV} {bk:Bk} {xq xb xd:AV} {yl:List (bS×AV)} {l:OL} {rs:List (Row×AV)} {w:hN} {M0 V0:Nat} {y:Row×AV} {j kk:Nat} {one:Except Int OL}
structure KW (W:Nat->Prop) (QR QN:VK) (QE:Nat->VK) (QP:AV->AH->Prop) (h0:AH) (n0 b:Nat) (xr xo xp x2:AV) (bk:Bk) (xq xb xd:AV) (yl:List (bS×AV)) (l:OL) (rs:List (Row×AV)) (w:hN) (M0 V0:Nat) (y:Row×AV) (j:Nat) (one:Except Int OL):Prop where
 sc:SC bk rs
 bp:yD bk
 dl:bk.ds.length<=100000000
 wi:WI bk w M0 V0
 rw:RW n0 h0 b xr bk xq xb xd yl l 0 0 false xo xp
 rt:RT h0 xr rs
 hy:rs[j]?=some y
 hW:∀id,SW b xo xp id\/h0.next<=id->W id
 hk:∀h',WP n0 xr bk xq xb xd yl b h0 xo xp h' one->Fr h0 h' (SW b xo xp)->di.n1 W QR QN QE QP (.ptr b 0) x2 (U w.cQ) (U w.value) (I j) h'
theorem KW.num(k:KW W QR QN QE QP h0 n0 b xr xo xp x2 bk xq xb xd yl l rs w M0 V0 y j one)(f:Fr h0 h fun _=>False){M:Nat->Prop}{R:AE->AH->Prop}{x0:AV}{a:Arg}(o_:gU bk.qs a=0)(hR:∀h',Fr h h' (fun _=>False)->R (.ret (I (fR bk.qs a))) h'):aA Pg 43 [x0,.agg a.enc,xq] h M R:=
 Bz (k.rw.ba f).q.dr (by have:=lens k.sc.bf.i.ok;omega) k.sc.bf.i.ok.sq k.sc.bf.i.ok.tq.2 o_ hR
theorem KW.Zw(k:KW W QR QN QE QP h0 n0 b xr xo xp x2 bk xq xb xd yl l rs w M0 V0 y j one)(f:Fr h0 h fun _=>False){M:Nat->Prop}{R:AE->AH->Prop}{x0:AV}{a:Arg}(o_:gU bk.bs a=0)(hR:∀h',Fr h h' (fun _=>False)->R (.ret (I (fR bk.bs a))) h'):aA Pg 43 [x0,.agg a.enc,xb] h M R:=
 Bz (k.rw.ba f).s.dr (by have:=lens k.sc.bf.i.ok;omega) k.sc.bf.i.ok.sb k.sc.bf.i.ok.tb.2 o_ hR
theorem SZ(k:KW W QR QN QE QP h0 n0 b xr xo xp x2 bk xq xb xd yl l rs w M0 V0 y j (jq bk (rs.map (·.1)) bk.ds.length y.1.name (y.1.args.map (fR bk.qs)) w y.1.place l))(f:Fr h0 h fun _=>False)(oo:h.obj vo=some (aP (se w) 7 36))(bO:h.obj vr=some (aP (az y) 6 87))(hu:v_ bk bk.ds.length y.1)(o_:∀a∈y.1.args,gU bk.qs a=0) :
  di.n9 W QR QN QE QP (.ptr b 0) x2 (U w.cQ) (U w.value) (I j) (.ptr vr 0) (.ptr vo 0) h:=by
 have rt:=k.rt.ba f
 obtain⟨ha,hl⟩:=rt.a y (zP k.hy)
 simp only[di.n9,aj,au,bO,ap,zG,az,zA,zB,aa,ha.len.1,ha.len.2,zH]
 refine HN hl fun x5 h1 wD pF f1=>?_
 unfold di.n8 di.n7
 refine cy (ι:=Nat×AV) (fun q v h'=>v=[.ptr b 0,x2,U w.cQ,U w.value,I j,.ptr vr 0,.ptr vo 0,q.2,I q.1]/\q.1<=y.1.args.length/\Fr h h' (fun _=>False)/\cl cX 1 3 h' q.2 ((y.1.args.take q.1).map (fR bk.qs))/\dC (h.next<=·) q.2) (fun q=>y.1.args.length-q.1) (0,x5) ⟨rfl,by omega,f1,by simpa using wD,pF⟩ ?_
 rintro K ⟨q,x6⟩ v h2 ⟨rfl,hq,f2,hx,hs⟩ step
 simp only at hq hx hs step
 have jV:=f2.bU bO
 have ii:=ha.ba f2
 have bX:=f.cj f2
 have ma:=k.rw.ba bX
 simp only[di.iX,zN,zO,di.n6,aj,au,jV,ap,zG,az,zA,zB,aa,ii.len.1,ii.len.2,zH,bc]
 by_cases aL:q<y.1.args.length
 ·have fH:(q:Int)<y.1.args.length:=by omega
  have g1:y.1.args[q]?=some y.1.args[q]:=zJ aL
  have gA:=List.getElem_mem aL
  have lA:y.1.args.take (q+1)=y.1.args.take q++[y.1.args[q]]:=by rw[List.take_add_one,g1];rfl
  generalize y.1.args[q]=a at *
  have w2:IntKind.i64.wrap ((q:Int)+1)=((q+1:Nat):Int):=by rw[aR (by omega) (by omega)];simp
  simp only[zL fH,di.n5,al,zD,zF,zC,zI,di.n4,aj,au,jV,ap,zG,az,zA,zB,aa]
  refine jG ii Arg.bu g1 fun _=>?_
  simp only[aC,aj,au,ma.b,ap,zG,zA,zB,aa]
  refine⟨fun _=>False,fun _ h=>h.elim,k.num bX (o_ a gA) fun h3 f3=>?_⟩
  refine qA (f:=cX) (t:=fR bk.qs a) gJ (by omega) rfl (by omega) rfl rfl (hx.aU f3 fun _ _ h=>h) (fun id off n e=>k.hW id (.inr (zR f.next (hs id off n e)))) (by rw[zZ,yA];omega) fun z h4 hz mJ f4=>?_
  have f24:Fr h h4 fun _=>False:=(f2.cj f3).trans (f4.mono fun j ⟨off,n,e⟩=>.inr (hs j off n e))
  simp only[di.n3,aZ,w2]
  refine step (q+1,z) _ h4 (by simp only;omega) ⟨rfl,by simp only;omega,f24,?_,fun id off n e=>zR (f2.cj f3).next (mJ id off n e)⟩
  rw[lA,List.map_append]
  exact hz
 ·have eV:¬(q:Int)<y.1.args.length:=by omega
  have e:q=y.1.args.length:=by omega
  rw[e,List.take_length]at hx
  simp only[zK eV,di.n5,al,zE,zD,zC,zH,zV,di.n2,aj,au,jV,ap,zG,az,zA,zB,aa,zN,zO]
  refine dW (f2.bU oo) rfl fun _=>?_
  refine⟨SW b xo xp,fun id hs _=>k.hW id (.inl hs),LK (k:=bk.ds.length) k.sc k.dl h2 _ _ y.1.name _ x6 w y.1.place xo xp l ma (k.rt.ba bX) hx.dr (qj (k.rw.ba f).x hs) ?_ (fun _ h=>h) fun h3 hw f3=>?_⟩
  ·rcases hu with⟨u1,u2,_⟩ |⟨jj,d',u1,u2,u3,u4,u5⟩
   ·exact .inl ⟨u1,u2⟩
   ·exact .inr ⟨jj,d',u1,u2,u3,by simpa using u4,u5⟩
  ·exact k.hk h3 (hw.base bX.next fun id h=>.inl h) (SW.trans (SW.aU bX) (fun _ h=>.inl h) f3)
theorem IG{o:eY}{xf:AV}(k:KW W QR QN QE QP h0 n0 b xr xo xp x2 bk xq xb xd yl l rs w M0 V0 y j (j8 l o y.1.place))(f:Fr h0 h fun _=>False)(hq:cK cX 1 3 h xf o.aN)(sep:Sep xp xf){K:AV->AH->Prop}
  (hK:K=fun _ sR=>di.n1 W QR QN QE QP (.ptr b 0) x2 (U w.cQ) (U w.value) (I j) sR):aq Pg W 45 [.ptr b 0,.agg (ch (o,xf)),I y.1.place] h K QP:=by
 subst hK
 exact⟨SW b xo xp,fun id hs _=>k.hW id (.inl hs),HG (k.rw.ba f) hq sep (fun _ h=>h) fun h3 hw f3=>k.hk h3 (hw.base f.next fun id h=>.inl h) (SW.trans (SW.aU f) (fun _ h=>.inl h) f3)⟩
theorem Ms{a:Arg}(pJ:y.1.args=[a])(k:KW W QR QN QE QP h0 n0 b xr xo xp x2 bk xq xb xd yl l rs w M0 V0 y j (j8 l (kx 3 ByteArray.empty [fR bk.qs a] 0 w) y.1.place))(f:Fr h0 h fun _=>False)(mo:h0.next<=vo)(oo:h.obj vo=some (aP (se w) 7 36))(bO:h.obj vr=some (aP (az y) 6 87))(By:vr≠vo)(o_:gU bk.qs a=0) :
  di.bR W QR QN QE QP (.ptr b 0) x2 (U w.cQ) (U w.value) (I j) (.ptr vr 0) (.ptr vo 0) h:=by
 have wo:W vo:=k.hW vo (.inr mo)
 simp only[di.bR,aj,aE,oo,dt,bz,zG]
 refine⟨⟨wo,rfl,rfl,by simp[ch]⟩,?_⟩
 have f1:Fr h0 (h.put vo 0 [I 3]) fun _=>False:=f.put (.inr mo)
 have g1:Fr h (h.put vo 0 [I 3]) (·=vo):=Fr.refl.put (.inl rfl)
 have o1:=dz (off:=0) (cs:=[I 3]) oo
 generalize h.put vo 0 [I 3]=h1 at *
 have kI:=g1.obj bO By
 obtain⟨ha,hl⟩:=(k.rt.ba f1).a y (zP k.hy)
 rw[pJ]at ha
 simp only[di.bV,aj,au,kI,ap,zG,az,zA,zB,aa]
 refine jG (i:=0) ha Arg.bu rfl fun _=>?_
 simp only[aC,aj,au,(k.rw.ba f1).b,ap,zG,zA,zB,aa]
 refine⟨fun _=>False,fun _ h=>h.elim,k.num f1 o_ fun h2 f2=>?_⟩
 refine qz (cells:=[I (fR bk.qs a)]) ⟨rfl,rfl⟩ fun id h3 f3 hid KI=>?_
 have eO:=f1.cj (f2.cj f3)
 have o3:=f3.bU (f2.bU o1)
 simp only[aj,aE,o3,show cJ (.sl id 0 1)=some [.sl id 0 1] from rfl,bz,zG]
 refine⟨⟨wo,rfl,rfl,by simp[ch,bt]⟩,?_⟩
 have f4:Fr h0 (h3.put vo 2 [.sl id 0 1]) fun _=>False:=eO.put (.inr mo)
 have g4:Fr h3 (h3.put vo 2 [.sl id 0 1]) (·=vo):=Fr.refl.put (.inl rfl)
 have o4:=dz (off:=2) (cs:=[.sl id 0 1]) o3
 generalize h3.put vo 2 [.sl id 0 1]=h4 at *
 have IW:=g4.obj KI (bM KI o3 (show(3:Nat)≠36 by decide))
 have tF:=g4.obj (f3.bU (f2.bU kI)) By
 simp only[di.bP]
 refine dW o4 rfl fun _=>?_
 simp only[aj,au,tF,ap,zG,az,zA,zB,aa]
 refine IG (o:=kx 3 ByteArray.empty [fR bk.qs a] 0 w) (xf:=.sl id 0 1) k f4 (.inr (.inr ⟨id,[],false,3,rfl,fun _=>rfl,by rw[IW];rfl⟩)) ?_ rfl
 refine qj k.rw.x fun i off n e=>?_
 cases e
 exact zR (f1.cj f2).next hid
end
end
section
open Go.Ab
attribute [-simp] aV aE
section
variable {W:Nat->Prop} {QR QN:VK} {QE:Nat->VK} {QP:AV->AH->Prop} {h h0:AH} {n0 b vo vr:Nat} {xr xo xp x2:AV} {bk:Bk} {xq xb xd:AV} {yl:List (bS×AV)} {l:OL} {rs:List (Row×AV)} {w:hN} {M0 V0:Nat} {y:Row×AV} {j kk:Nat} {one:Except Int OL}
theorem Ps{a c:Arg}(pJ:y.1.args=[a,c])(k:KW W QR QN QE QP h0 n0 b xr xo xp x2 bk xq xb xd yl l rs w M0 V0 y j (j8 l (kx 2 ByteArray.empty [fR bk.qs a] (fR bk.bs c) w) y.1.place))(f:Fr h0 h fun _=>False)(mo:h0.next<=vo)(oo:h.obj vo=some (aP (se w) 7 36))(bO:h.obj vr=some (aP (az y) 6 87))(By:vr≠vo)(o_:gU bk.qs a=0)(aaL:gU bk.bs c=0) :
  di.bH W QR QN QE QP (.ptr b 0) x2 (U w.cQ) (U w.value) (I j) (.ptr vr 0) (.ptr vo 0) h:=by
 have wo:W vo:=k.hW vo (.inr mo)
 simp only[di.bH,aj,aE,oo,dt,bz,zG]
 refine⟨⟨wo,rfl,rfl,by simp[ch]⟩,?_⟩
 have f1:Fr h0 (h.put vo 0 [I 2]) fun _=>False:=f.put (.inr mo)
 have g1:Fr h (h.put vo 0 [I 2]) (·=vo):=Fr.refl.put (.inl rfl)
 have o1:=dz (off:=0) (cs:=[I 2]) oo
 generalize h.put vo 0 [I 2]=h1 at *
 have kI:=g1.obj bO By
 obtain⟨ha,hl⟩:=(k.rt.ba f1).a y (zP k.hy)
 rw[pJ]at ha
 simp only[di.a_,aj,au,kI,ap,zG,az,zA,zB,aa]
 refine jG (i:=0) ha Arg.bu rfl fun _=>?_
 simp only[aC,aj,au,(k.rw.ba f1).b,ap,zG,zA,zB,aa]
 refine⟨fun _=>False,fun _ h=>h.elim,k.num f1 o_ fun h2 f2=>?_⟩
 refine qz (cells:=[I (fR bk.qs a)]) ⟨rfl,rfl⟩ fun id h3 f3 hid KI=>?_
 have eO:=f1.cj (f2.cj f3)
 have o3:=f3.bU (f2.bU o1)
 simp only[aj,aE,o3,show cJ (.sl id 0 1)=some [.sl id 0 1] from rfl,bz,zG]
 refine⟨⟨wo,rfl,rfl,by simp[ch,bt]⟩,?_⟩
 have f4:Fr h0 (h3.put vo 2 [.sl id 0 1]) fun _=>False:=eO.put (.inr mo)
 have g4:Fr h3 (h3.put vo 2 [.sl id 0 1]) (·=vo):=Fr.refl.put (.inl rfl)
 have o4:=dz (off:=2) (cs:=[.sl id 0 1]) o3
 generalize h3.put vo 2 [.sl id 0 1]=h4 at *
 have IW:=g4.obj KI (bM KI o3 (show(3:Nat)≠36 by decide))
 have tF:=g4.obj (f3.bU (f2.bU kI)) By
 obtain⟨Yc,_⟩:=(k.rt.ba f4).a y (zP k.hy)
 rw[pJ]at Yc
 simp only[di.bj,aj,au,tF,ap,zG,az,zA,zB,aa]
 refine jG (i:=1) Yc Arg.bu rfl fun _=>?_
 simp only[aC,aj,au,(k.rw.ba f4).b,ap,zG,zA,zB,aa]
 refine⟨fun _=>False,fun _ h=>h.elim,k.Zw f4 aaL fun h5 f5=>?_⟩
 have o5:=f5.bU o4
 simp only[aj,aE,o5,dt,bz,zG]
 refine⟨⟨wo,rfl,rfl,by simp[ch,bt]⟩,?_⟩
 have f6:Fr h0 (h5.put vo 3 [I (fR bk.bs c)]) fun _=>False:=(f4.cj f5).put (.inr mo)
 have g6:Fr h5 (h5.put vo 3 [I (fR bk.bs c)]) (·=vo):=Fr.refl.put (.inl rfl)
 have o6:=dz (off:=3) (cs:=[I (fR bk.bs c)]) o5
 generalize h5.put vo 3 [I (fR bk.bs c)]=h6 at *
 have Zv:=g6.obj (f5.bU IW) (bM (f5.bU IW) o5 (show(3:Nat)≠36 by decide))
 have Bx:=g6.obj (f5.bU tF) By
 simp only[di.aS]
 refine dW o6 rfl fun _=>?_
 simp only[aj,au,Bx,ap,zG,az,zA,zB,aa]
 refine IG (o:=kx 2 ByteArray.empty [fR bk.qs a] (fR bk.bs c) w) (xf:=.sl id 0 1) k f6 (.inr (.inr ⟨id,[],false,3,rfl,fun _=>rfl,by rw[Zv];rfl⟩)) ?_ rfl
 refine qj k.rw.x fun i off n e=>?_
 cases e
 exact zR (f1.cj f2).next hid
theorem Wd{g:gK}(hB:V3 n0 b xr bk xq xb xd yl rs kk)(kB:eF bk.bs y.1.name=some g)(wE:0<=y.1.num)(iO:g.size<63->y.1.num<2^g.size.toNat)
  (k:KW W QR QN QE QP h0 n0 b xr xo xp x2 bk xq xb xd yl l rs w M0 V0 y j (match oe w g y.1.num with |none=>.ok l |some w'=>iA bk (rs.map (·.1)) w' (sg rs (j+1) kk) l)) (f:Fr h0 h fun _=>False) (bO:h.obj vr=some (aP (az y) 6 87)) (hj:j+1+kk<=rs.length) (xP:y.1.rows=kk) (hg:GO bk (sg rs (j+1) kk)) :
  di.fl W QR QN QE QP (.ptr b 0) x2 (U w.cQ) (U w.value) (I j) (.ptr vr 0) h:=by
 have hlen:=k.rt.n
 have eW:=k.rw.ba f
 have gA:=List.mem_of_find?_eq_some kB
 have hs:=k.sc.bf.i.ok.sb g gA
 have ht:=k.sc.bf.i.ok.tb
 have sP:=k.sc.nm y (zP k.hy)
 obtain⟨Vb,M',V',hwi⟩:=Xb k.wi k.sc.bf.i.ok k.bp gA wE iO sP
 simp only[di.fl,aC,aj,au,eW.b,bO,ap,zG,az,zA,zB,aa]
 refine⟨fun _=>False,fun _ h=>h.elim,sy eW.s.dr (by have:=lens k.sc.bf.i.ok;omega) (fun hn=>by rw[kB]at hn;cases hn) fun q g' hq BY=>?_⟩
 rw[kB]at BY;cases BY
 have w64:IntKind.i64.wrap (g.size-1)=g.size-1:=aR (by omega) (by omega)
 have OP:IntKind.u64.bits=64:=rfl
 have s0:0<=g.size-1:=by omega
 have hm:IntKind.u64.wrap (IntKind.u64.wrap (IntKind.u64.wrap (IntKind.u64.wrap (1*2^(min (g.size-1).toNat 64))*2)-1)*2^(min g.from_.toNat 64))=gR g:=by
  unfold gR
  have e:IntKind.u64.wrap (IntKind.u64.wrap (1*2^(min (g.size-1).toNat 64))*2)=IntKind.u64.wrap (1*2^(min g.size.toNat 64)):=by
   obtain⟨s,es⟩:∃s:Nat,g.size=s+1:=⟨(g.size-1).toNat,by omega⟩
   have e1:(g.size-1).toNat=s:=by omega
   have e2:g.size.toNat=s+1:=by omega
   rw[e1,e2,Nat.min_eq_left (by omega),Nat.min_eq_left (by omega),Int.one_mul,Int.one_mul,Int.pow_succ,sG]
   have h3:2^s<=2^63:=Nat.pow_le_pow_right (by decide) (by omega)
   have h5:(2:Nat)^63=9223372036854775808:=by decide
   generalize 2^s=P at *
   rw[A9 (x:=(P:Int)) (by omega) (by omega)]
  rw[e]
 have hv:IntKind.u64.wrap (IntKind.u64.wrap y.1.num*2^(min g.from_.toNat 64))=valOf g y.1.num:=rfl
 have w1:∀x:Int,0<=x/\x<=1000000000->IntKind.i64.wrap x=x:=fun x hx=>aR (by omega) (by omega)
 simp only[di.eC,aC,aj,au,eW.b,ap,zG,zA,zB,aa]
 refine dJ (k:=2) eW.s.dr jL hq (by omega) rfl fun _=>?_
 simp only[lW,w64,qn,s0,zH,OP]
 have Zy:∀{t:TypeId}{c:Bool}{x y:Int}{K:AV->Prop},ai Pg .mul t c (U x) (U y) K=K (U (IntKind.u64.wrap (x*y))):=fun{t c x y K}=>by simp[ai]
 simp only[Zy,DG,aC,aj,au,eW.b,ap,zG,zA,zB,aa]
 refine dJ (k:=1) eW.s.dr jL hq (by omega) rfl fun _=>?_
 simp only[qn,hs.2.1,zH,OP,hm,di.dZ,aj,au,bO,ap,zG,az,zA,zB,aa,Ky,aC,eW.b]
 refine dJ (k:=1) eW.s.dr jL hq (by omega) rfl fun _=>?_
 simp only[qn,hs.2.1,zH,OP,hv,di.dS,xA]
 have GD:∀{t:TypeId}{c:Bool}{x y:Int}{K:AV->Prop},ai Pg .eql t c (U x) (U y) K=K (B (x==y)):=fun{t c x y K}=>by simp[ai]
 have fin:∀t,t=((kE w.cQ (gR g)==0)||(kE w.value (gR g)==valOf g y.1.num))->di.c9 W QR QN QE QP (.ptr b 0) x2 (U w.cQ) (U w.value) (I j) (.ptr vr 0) (U (gR g)) (U (valOf g y.1.num)) (B t) h:=fun t sN=>by
  unfold oe at k
  cases t with
  |true=>
   have Ny:¬(kE w.value (gR g)≠kE (valOf g y.1.num) w.cQ):=by
    rw[Vb]
    intro hc
    apply hc
    have:=sN.symm
    simp only[Bool.or_eq_true,beq_iff_eq]at this
    exact this
   rw[zW Ny]at k
   simp only[di.c9,al,zD,zF,zC,zI,aZ,w1 ((j:Int)+1) (by omega),aj,au,bO,ap,zG,az,zA,zB,aa,xP,w1 ((j:Int)+1+kk) (by omega),Fj]
   refine⟨SW b xo xp,fun id hs _=>k.hW id (.inl hs),hB h _ _ (j+1) ⟨true,wx w.cQ (gR g),wx w.value (valOf g y.1.num)⟩ M' V' xo xp l hwi eW (k.rt.ba f) hj hg (fun _ h=>h) fun h3 hw f3=>?_⟩
   exact k.hk h3 (hw.base f.next fun id h=>.inl h) (SW.trans (SW.aU f) (fun _ h=>.inl h) f3)
  |false=>
   have je:kE w.value (gR g)≠kE (valOf g y.1.num) w.cQ:=by
    rw[Vb]
    intro hc
    have:=sN.symm
    simp only[Bool.or_eq_false_iff,beq_eq_false_iff_ne]at this
    exact hc.elim this.1 this.2
   rw[zX je]at k
   simp only[di.c9,al,zE,zD,zC,zH]
   exact k.hk h ⟨xo,xp,eW,fun _ h=>.inl h⟩ (SW.aU f)
 have fin:=fin _ rfl
 rw[GD]
 cases hc:(kE w.cQ (gR g)==0) with
 |true=>
  rw[hc]at fin
  simpa[-di.c9,di.dn,di.cU] using fin
 |false=>
  rw[hc]at fin
  simp only[di.dn,cA,zT,zE,zD,zC,zI,xA,GD,di.cU,bK,if_false]
  simpa[-di.c9] using fin
end
end
section
open Go.Ab
attribute [-simp] aV aE
theorem RW.Uc{n0:Nat}{h:AH}{b:Nat}{xr:AV}{bk:Bk}{xq xb xd:AV}{yl:List (bS×AV)}{l l':OL}{pl er fP GC:Int}{many vI:Bool}{xo xp fq fp:AV}(a:RW n0 h b xr bk xq xb xd yl l pl er many xo xp)(a':RW n0 h b xr bk xq xb xd yl l' fP GC vI fq fp):l.length=l'.length:=by
 have h1:=a.gH.2 (fun v=>v=I l'.length)
 have h2:=a'.gH.2 (fun v=>v=I l'.length)
 have hb:=a.b
 rw[a'.b]at hb
 have FL:fq=xo:=by
  have:=congrArg (fun o:Option AO=>(o.map (·.cells)).bind (·[7]?)) hb
  simpa[Fq,aP] using this
 rw[FL,h1]at h2
 have h3:=h2.mpr rfl
 have:(l.length:Int)=l'.length:=by injection h3 with h4;injection h4
 omega
section
variable {W:Nat->Prop} {QR QN:VK} {QE:Nat->VK} {QP:AV->AH->Prop} {h h0:AH} {n0 b vo vr:Nat} {xr xo xp x2:AV} {bk:Bk} {xq xb xd:AV} {yl:List (bS×AV)} {l:OL} {rs:List (Row×AV)} {w:hN} {M0 V0:Nat} {y:Row×AV} {j kk:Nat} {one:Except Int OL}
theorem S0(hB:V3 n0 b xr bk xq xb xd yl rs kk)(k:KW W QR QN QE QP h0 n0 b xr xo xp x2 bk xq xb xd yl l rs w M0 V0 y j (gv (iA bk (rs.map (·.1)) w (sg rs (j+1) kk)) y.1.num.toNat l))(f:Fr h0 h fun _=>False)(jp:¬SW b xo xp vr)(bO:h.obj vr=some (aP (az y) 6 87))(hj:j+1+kk<=rs.length)(xP:y.1.rows=kk)(hg:GO bk (sg rs (j+1) kk)) :
  di.cB W QR QN QE QP (.ptr b 0) x2 (U w.cQ) (U w.value) (I j) (.ptr vr 0) h:=by
 unfold di.cB di.cC
 have hlen:=k.rt.n
 have sP:=k.sc.nm y (zP k.hy)
 have Xx:=k.rw.ba f
 have sE:=k.rt.ba f
 have hk:∀h',WP n0 xr bk xq xb xd yl b h xo xp h' (gv (iA bk (rs.map (·.1)) w (sg rs (j+1) kk)) y.1.num.toNat l)->Fr h h' (SW b xo xp)->di.n1 W QR QN QE QP (.ptr b 0) x2 (U w.cQ) (U w.value) (I j) h':=fun h' hw f'=>k.hk h' (hw.base f.next fun id h=>.inl h) (SW.trans (SW.aU f) (fun _ h=>.inl h) f')
 have hW:∀id,SW b xo xp id\/h.next<=id->W id:=fun id hid=>k.hW id (hid.imp (fun h=>h) (zR f.next))
 generalize hT:gv (iA bk (rs.map (·.1)) w (sg rs (j+1) kk)) y.1.num.toNat l=T at hk
 refine cy (ι:=Nat×Except Int OL) (fun q v h'=>v=[.ptr b 0,x2,U w.cQ,U w.value,I j,.ptr vr 0,I (y.1.num.toNat-q.1:Nat)]/\q.1<=y.1.num.toNat/\WP n0 xr bk xq xb xd yl b h xo xp h' q.2/\ll (gv (iA bk (rs.map (·.1)) w (sg rs (j+1) kk)) q.1) q.2=T/\Fr h h' (SW b xo xp)) (fun q=>q.1) (y.1.num.toNat,.ok l) ⟨by simp,zU _,⟨xo,xp,Xx,fun _ h=>.inl h⟩,hT,Fr.refl⟩ ?_
 rintro K ⟨c,res⟩ v h1 ⟨rfl,hc,hw,bq,f1⟩ step
 simp only at hc hw bq step
 have kI:=f1.obj bO jp
 have g1:=Xx.tw f1
 simp only[di.pL,zN,zO,di.cF,aj,au,kI,ap,zG,az,zA,zB,aa,bc]
 cases c with
 |zero=>
  have e1:decide (((y.1.num.toNat-0:Nat):Int)<y.1.num)=false:=by simp;omega
  have jv:res=T:=by
   rw[<-bq]
   cases res<;>rfl
  rw[jv]at hw
  simp only[e1,di.cS,cA,zS,zE,zD,zC,zH,di.cL,bK,if_false,di.cw,al,zV,zN,zO]
  exact hk h1 hw f1
 |succ c=>
  have e1:decide (((y.1.num.toNat-(c+1):Nat):Int)<y.1.num)=true:=by simp;omega
  have w1:∀x:Int,0<=x/\x<=1000000000->IntKind.i64.wrap x=x:=fun x hx=>aR (by omega) (by omega)
  have w3:IntKind.i64.wrap (((y.1.num.toNat-(c+1):Nat):Int)+1)=((y.1.num.toNat-c:Nat):Int):=by rw[aR (by omega) (by omega)];omega
  rcases hw.cases with⟨l1,iG,jD,rfl,eW,iO⟩ |⟨e,l1,iG,jD,rfl,eW⟩
  ·simp only[pd,gv]at bq
   simp only[e1,di.cS,cA,zS,zD,zF,zC,zI,aC,aj,au,eW.b,ap,zG,zA,zB,aa,dA,zT,di.cL,bK,zV,di.cw,al,di.cT,eW.gH.1,eW.gH.2,zH,di.cP,aZ,w1 ((j:Int)+1) (by omega),kI,az,xP,w1 ((j:Int)+1+kk) (by omega)]
   refine⟨SW b iG jD,fun id hs _=>hW id (iO id hs),hB h1 _ _ (j+1) w M0 V0 iG jD l1 k.wi eW (sE.If g1) hj hg (fun _ h=>h) fun h2 uR f2=>?_⟩
   have bX:Fr h h2 (SW b xo xp):=SW.trans f1 iO f2
   have sM:=WP.base (h:=h) (xo:=xo) (xp:=xp) uR f1.next iO
   obtain⟨l2,mc,Vn,I0,lm,oP,ma⟩:=uR.obj
   have pY:∀l',iA bk (rs.map (·.1)) w (sg rs (j+1) kk) l1=.ok l'->l'.length=l2.length:=fun l' tO=>by
    rw[tO]at uR
    obtain⟨JR,xp3,qY,_⟩:=uR
    exact qY.Uc ma
   simp only[di.cp,aC,aj,au,ma.b,ap,zG,zA,zB,aa,ma.gH.1,ma.gH.2,zH,eG]
   by_cases k1:l2.length=l1.length
   ·have eI:((l2.length:Int)==(l1.length:Int))=true:=by rw[k1];simp
    simp only[eI,di.ck,al,zD,zF,zC,zI,zV,zN,zO]
    refine hk h2 ?_ bX
    cases hb:iA bk (rs.map (·.1)) w (sg rs (j+1) kk) l1 with
    |ok l'=>
     rw[hb]at bq sM
     simp only at bq
     rw[zX (by rw[pY l' hb,k1])]at bq
     rw[<-bq];exact sM
    |error e=>
     rw[hb]at bq sM
     simp only at bq
     rw[<-bq];exact sM
   ·have eI:((l2.length:Int)==(l1.length:Int))=false:=by simp;omega
    simp only[eI,di.ck,al,zE,zD,zC,zH,di.b5,aZ,w3]
    refine step (c,iA bk (rs.map (·.1)) w (sg rs (j+1) kk) l1) _ h2 (by simp only;omega) ⟨rfl,by simp only;omega,sM,?_,bX⟩
    cases hb:iA bk (rs.map (·.1)) w (sg rs (j+1) kk) l1 with
    |ok l'=>
     rw[hb]at bq
     simp only at bq
     rw[zW (by rw[pY l' hb];exact k1)]at bq
     exact bq
    |error e=>
     rw[hb]at bq
     exact bq
  ·rw[vX]at bq
   rw[bq]at hw
   simp only[e1,di.cS,cA,zS,zD,zF,zC,zI,aC,aj,au,eW.b,ap,zG,zA,zB,aa,dA,di.cL,bK,zV,di.cw,al,zE,zH,zN,zO]
   exact hk h1 hw f1
end
section
variable {n0 b:Nat} {xr:AV} {bk:Bk} {xq xb xd:AV} {yl:List (bS×AV)} {rs:List (Row×AV)}
theorem MM(sc:SC bk rs)(bp:yD bk)(dl:bk.ds.length<=100000000)(n:Nat):V3 n0 b xr bk xq xb xd yl rs n:=by
 induction n using Nat.strongRecOn with
 |ind n ih=>
 intro h M R a w M0 V0 xo xp l wi rw rt hn hg hM hR
 apply di.aM
 unfold di.jW di.oV
 have hlen:=rt.n
 generalize hT:iA bk (rs.map (·.1)) w (sg rs a n) l=T at hR
 refine cy (ι:=Nat×Except Int OL) (fun q v h'=>v=[.ptr b 0,I (a+n),U w.cQ,U w.value,I (a+(n-q.1:Nat):Int)]/\q.1<=n/\WP n0 xr bk xq xb xd yl b h xo xp h' q.2/\GO bk (sg rs (a+(n-q.1)) q.1)/\ll (iA bk (rs.map (·.1)) w (sg rs (a+(n-q.1)) q.1)) q.2=T/\Fr h h' (SW b xo xp)) (fun q=>q.1) (n,.ok l) ⟨by simp,zU _,⟨xo,xp,rw,fun _ h=>.inl h⟩,by simpa using hg,by simpa[pd] using hT,Fr.refl⟩ ?_
 rintro K ⟨m,res⟩ v h1 ⟨rfl,hm,hw,lf,bq,f1⟩ step
 simp only at hm hw lf bq step
 have oS:=rt.If (rw.tw f1)
 have fin:WP n0 xr bk xq xb xd yl b h xo xp h1 T->aJ Pg [] R [] h1:=fun iV=>by
  have:=hR h1 iV f1
  simpa[aJ,mT,jQ] using this
 unfold di.cG
 simp only[zN,zO,di.pr,bc]
 cases m with
 |zero=>
  have e1:decide ((a:Int)+(n-0:Nat)<a+n)=false:=by simp
  have jv:res=T:=by
   rw[<-bq,vq]
   cases res with
   |error e=>rfl
   |ok l=>rw[pd,vg]
  rw[jv]at hw
  simp only[e1,di.mh,cA,zS,zE,zD,zC,zH,di.gQ,bK,if_false,di.jH,al,zV]
  exact fin hw
 |succ m=>
  obtain⟨j,hj⟩:∃j,j=a+(n-(m+1)):=⟨_,rfl⟩
  have ej:(a:Int)+(n-(m+1):Nat)=(j:Int):=by omega
  have e1:decide ((j:Int)<a+n)=true:=by simp;omega
  rw[<-hj]at bq lf
  obtain⟨y,hy⟩:∃y,rs[j]?=some y:=⟨rs[j]'(by omega),zJ _⟩
  rw[xj hy]at bq lf
  obtain⟨⟨b0,b1⟩,go,gt,gd⟩:=lf.inv
  rw[qX (by omega)]at b1
  obtain⟨kk,fI⟩:∃kk:Nat,y.1.rows=kk:=⟨y.1.rows.toNat,by omega⟩
  have lQ:kk<=m:=by omega
  rw[fI,zY,jR lQ]at gt
  rw[fI,zY,jS]at gd
  have w1:∀x:Int,0<=x/\x<=1000000000->IntKind.i64.wrap x=x:=fun x hx=>aR (by omega) (by omega)
  rcases hw.cases with⟨l1,iG,jD,rfl,eW,iO⟩ |⟨e,l1,iG,jD,rfl,eW⟩
  ·rw[pd,vT,fI,zY,jR lQ,jS]at bq
   simp only[e1,ej,di.mh,cA,zS,zD,zF,zC,zI,aC,aj,au,eW.b,ap,zG,zA,zB,aa,dA,zT,di.gQ,bK,zV,di.jH,al,di.lc]
   have H_:∀id,SW b iG jD id\/h1.next<=id->(M id\/h.next<=id):=fun id hid=>by
    rcases hid with hid |hid
    ·rcases iO id hid with h' |h'
     ·exact .inl (hM id h')
     ·exact .inr h'
    ·exact .inr (zR f1.next hid)
   refine gD oS.r dT (oS.one hy) hy rfl rfl (fun id hid=>H_ id (.inr hid)) fun vr h3 f3 jp ko=>?_
   simp only[di.gI,xx]
   refine⟨se w,by simp[dU,bt,dt,ns,ch,wi.b];rfl,?_⟩
   refine jt (cs:=se w) rfl rfl rfl rfl (fun id hid=>H_ id (.inr (zR f3.next hid))) fun vo h4 f4 mo oo=>?_
   have f34:=f3.cj f4
   have tF:=f4.bU ko
   have By:vr≠vo:=fun e=>by have:=h3.lt _ _ ko;omega
   have UC:h1.next<=vo:=zR f3.next mo
   have kw:KW (fun id=>M id\/h.next<=id) (aJ Pg [] R) K (fun(i:Nat) (vs:List AV) (h:AH)=>if i=0 then aJ Pg [] R vs h else False) (fun v h=>R (.bW v) h) h1 n0 b xr iG jD (I (a+n)) bk xq xb xd yl l1 rs w M0 V0 y j (vD bk (rs.map (·.1)) w y.1 (sg rs (j+1) kk) l1):=by
    refine⟨sc,bp,dl,wi,eW,oS,hy,H_,fun h' iV f'=>?_⟩
    generalize vD bk (rs.map (·.1)) w y.1 (sg rs (j+1) kk) l1=CU at *
    obtain⟨l2,mc,Vn,I0,lm,oP,ma⟩:=iV.obj
    have iP:Fr h h' (SW b xo xp):=SW.trans f1 iO f'
    simp only[di.n1,aC,aj,au,ma.b,ap,zG,zA,aa]
    refine dJ (k:=4) (rt.If (rw.tw iP)).r dT hy (by omega) rfl fun _=>?_
    rw[fI]
    simp only[aZ,w1 (1+(kk:Int)) (by omega),w1 ((j:Int)+(1+kk)) (by omega)]
    have e8:j+1+kk=a+(n-(m-kk)):=by omega
    have e9:(j:Int)+(1+kk)=a+(n-(m-kk):Nat):=by omega
    rw[e8]at bq gd
    exact step (m-kk,CU) _ h' (by simp only;omega) ⟨by rw[<-e9],by simp only;omega,iV.base f1.next (fun id hid=>iO id hid),gd,bq,iP⟩
   clear bq step
   have e4:(⟨#[114,101,112,101,97,116]⟩:ByteArray)=aT:=rfl
   have e5:(⟨#[105,102]⟩:ByteArray)=eZ:=rfl
   have e6:(⟨#[117,115,101]⟩:ByteArray)=cn:=rfl
   have e7:(⟨#[109,101,97,115,117,114,101]⟩:ByteArray)=bT:=rfl
   have e8:(⟨#[114,101,115,101,116]⟩:ByteArray)=cV:=rfl
   unfold vD at kw
   simp only[di.jd,aj,au,tF,ap,zG,az,zA,zB,aa,di.fC,br,e6]
   by_cases k3:y.1.kind=cn
   ·have n1:¬y.1.kind=aT:=by rw[k3];decide
    have n2:¬y.1.kind=eZ:=by rw[k3];decide
    rw[zW n1,zW n2,zX k3]at kw
    simp only[zL k3,di.fZ,al,zD,zF,zC,zI]
    exact SZ kw f34 oo tF (go.u k3).1 (go.u k3).2
   simp only[zK k3,di.fZ,al,zE,zD,zC,zH,di.gf,br,e7]
   by_cases k4:y.1.kind=bT
   ·have n1:¬y.1.kind=aT:=by rw[k4];decide
    have n2:¬y.1.kind=eZ:=by rw[k4];decide
    rw[zW n1,zW n2,zW k3,zX k4]at kw
    obtain⟨x,z,Lc,h0,eS⟩:=go.m k4
    rw[Lc]at kw
    simp only[zL k4,di.e_,al,zD,zF,zC,zI]
    exact Ps Lc kw f34 UC oo tF By h0 eS
   simp only[zK k4,di.e_,al,zE,zD,zC,zH,di.fQ,br,e8]
   by_cases k5:y.1.kind=cV
   ·have n1:¬y.1.kind=aT:=by rw[k5];decide
    have n2:¬y.1.kind=eZ:=by rw[k5];decide
    rw[zW n1,zW n2,zW k3,zW k4,zX k5]at kw
    obtain⟨x,hx,h0⟩:=go.s k5
    rw[hx]at kw
    simp only[zL k5,di.fk,al,zD,zF,zC,zI]
    exact Ms hx kw f34 UC oo tF By h0
   simp only[zK k5,di.fk,al,zE,zD,zC,zH,di.fL,br,e4]
   by_cases k1:y.1.kind=aT
   ·rw[zX k1]at kw
    simp only[zL k1,di.fD,al,zD,zF,zC,zI]
    exact S0 (ih kk (by omega)) kw f34 (eW.fresh jp) tF (by omega) fI (gt (.inl k1))
   rw[zW k1]at kw
   simp only[zK k1,di.fD,al,zE,zD,zC,zH,di.fu,br,e5]
   by_cases k2:y.1.kind=eZ
   ·rw[zX k2]at kw
    obtain⟨g,kB,g0,g1⟩:=go.i k2
    rw[kB]at kw
    simp only[zL k2,di.fM,al,zD,zF,zC,zI]
    exact Wd (ih kk (by omega)) kB g0 g1 kw f34 tF (by omega) fI (gt (.inr k2))
   rw[zW k2,zW k3,zW k4,zW k5]at kw
   simp only[zK k2,di.fM,al,zE,zD,zC,zH]
   exact kw.hk h4 ⟨iG,jD,eW.ba f34,fun _ h=>.inl h⟩ (SW.aU f34)
  ·rw[vX]at bq
   rw[bq]at hw
   simp only[e1,ej,di.mh,cA,zS,zD,zF,zC,zI,aC,aj,au,eW.b,ap,zG,zA,zB,aa,dA,di.gQ,bK,zV,di.jH,al,zE,zH]
   exact fin hw
end
end
section
open Go.Ab
attribute [-simp] aV aE
theorem Cy{q b:Int}:∀{l:List eY}{i:Nat}{n:Int},(jb q b l i n).2≠0->(jb q b l i n).1<i+l.length
 |[],i,n,h=>by simp[jb]at h
 |o::l,i,n,h=>by
  unfold jb at h ⊢
  split
  ·simp;omega
  ·rename_i h1
   split
   ·simp;omega
   ·rename_i h2
    rw[zW h1,zW h2]at h
    have:=Cy h
    simp only[List.length_cons];omega
theorem L6{q b:Int}{l:List eY}(hq:0<=q/\q<=64)(hb:0<=b/\b<=64)(hl:l.length<=4096)(h:(il q b l).2≠0):(il q b l).1<l.length:=by
 unfold il at h ⊢
 rw[zW (by omega),zW (by omega)]at h ⊢
 have:=Cy h
 omega
theorem Ru{bk bN:Bk}{own:Option Nat}{i:Int}{r:Row}(a:li bk)(hl:r.args.length<=100000000)(h:fO bk own i r=.ok bN):bN.ds.length<=bk.ds.length+1:=by
 obtain⟨_,_,_,g2,g3⟩:=oT a hl h
 by_cases k:r.kind=bD
 ·rw[g3 k];simp
 ·rw[g2 k];omega
theorem No(n:Nat):∀{deep:Nat}{own:Option Nat}{i:Nat}{rows:List Row}{bk bN:Bk}(_:rows.length=n)(_:∀r∈rows,r.args.length<=100000000)(_:li bk)(_:eM deep own i rows bk=.ok bN),bN.ds.length<=bk.ds.length+rows.length:=by
 induction n using Nat.strongRecOn with
 |ind n ih=>
 intro deep own i rows bk bN hn hl a h
 cases rows with
 |nil=>rw[jI]at h;cases h;simp
 |cons r rest=>
  rw[kc]at h
  split at h
  ·cases h
  rename_i hf
  obtain⟨_,_,f1,f2,_⟩:=u6 (Classical.not_not.1 hf)
  split at h
  ·cases h
  rename_i lS h1
  split at h
  ·cases h
  rename_i fc h2
  rw[List.length_cons]at hn
  have d1:=Ru a (hl r (List.mem_cons_self ..)) h1
  obtain⟨a1,_⟩:=oT a (hl r (List.mem_cons_self ..)) h1
  have FX:∀r'∈rest.take r.rows.toNat,r'.args.length<=100000000:=fun r' hr=>hl r' (List.mem_cons_of_mem _ (List.mem_of_mem_take hr))
  have pY:∀r'∈rest.drop r.rows.toNat,r'.args.length<=100000000:=fun r' hr=>hl r' (List.mem_cons_of_mem _ (List.mem_of_mem_drop hr))
  have d2:=ih _ (by rw[yA];omega) rfl FX a1 h2
  obtain⟨a2,_,s2⟩:=qp _ rfl FX a1 h2
  rw[yA]at d2
  rw[List.length_cons]
  by_cases k:r.kind=bD
  ·rw[zX k]at h
   have d3:=ih _ (by rw[List.length_drop];omega) rfl pY (ua a2 s2).1 h
   rw[List.length_drop]at d3
   simp only[j7,List.length_modify]at d3
   omega
  ·rw[zW k]at h
   have d3:=ih _ (by rw[List.length_drop];omega) rfl pY a2 h
   rw[List.length_drop]at d3
   omega
section
variable {h:AH} {M:Nat->Prop} {R:AE->AH->Prop} {xr:AV} {rs:List (Row×AV)}
theorem On(rt:RT h xr rs)(hn:∀y∈rs,y.1.num<=9223372036854775807)
  (hR:∀xo yl h',uh h' (cY (rs.map (·.1))) xo yl->Fr h h' (fun _=>False)->R (.ret (.dD [.agg [I (cY (rs.map (·.1))).q,I (cY (rs.map (·.1))).b,xo],I (cY (rs.map (·.1))).at_,I (cY (rs.map (·.1))).err])) h'):aA Pg 9 [xr] h M R:=by
 apply F9.aM
 unfold F9.ck
 have hv:=AH.b_ h (aP ([Value.int .i64 0,.int .i64 0,.slice none 0 0].map AV.sc) 3 25)
 rw[aV]
 refine⟨rfl,?_⟩
 have f1:Fr h (h.alloc (aP ([Value.int .i64 0,.int .i64 0,.slice none 0 0].map AV.sc) 3 25)) (fun _=>False):=Fr.refl.alloc _
 generalize h.alloc (aP ([Value.int .i64 0,.int .i64 0,.slice none 0 0].map AV.sc) 3 25)=h1 at *
 obtain⟨v,nO⟩:∃v,v=h.next:=⟨_,rfl⟩
 rw[<-nO]at hv ⊢
 have ov:h1.obj v=some (aP [I 0,I 0,aQ] 3 25):=hv
 have oS:=rt.ba f1
 have hx:=oS.r.one
 unfold F9.b5
 refine⟨[xr,aQ,aQ,aQ,I 0,I 0,B false,aQ,aQ],by simp[dU,bt,hx.2],?_⟩
 refine dV (by show(cR xr&&_)=true;rw[hx.1];rfl) fun b h2 f2 U_ ob=>?_
 have bX:=f1.cj f2
 have q0:=rt.ba bX
 have UD:v<h1.next:=h1.lt _ _ ov
 generalize wE:h1.next=n0 at *
 have uL:h.next<=n0:=by have:=f1.next;omega
 have Dr:∀{T:TypeId->Bool}{a b:AH},Fr h a (fun _=>False)->Fr a b (TW T n0 a)->Fr h b fun _=>False:=fun fa fb=>fa.trans (fb.mono fun id hid=>.inr (zR uL hid.1))
 have nJ:h2.obj v=some (aP [I 0,I 0,aQ] 3 25):=f2.bU ov
 have Wv:∀id,n0<=id->(M id\/v<=id):=fun id hid=>.inr (by omega)
 have rb:RB n0 h2 b xr kL 0 0 aQ aQ aQ []:=⟨⟨U_,(fun _ _ _ e=>by cases e),(fun _ _ _ e=>by cases e),(fun _ _ _ e=>by cases e)⟩,ob,.nil,.nil,⟨.nil,rfl,(fun _ h=>by cases h)⟩,fun _ _ _ _ _ e=>by cases e⟩
 have Qm:v≠b:=by omega
 have er:(rs.length:Int)=((0:Nat):Int)+(rs.length:Int):=by simp
 have oM:sg rs 0 rs.length=rs.map (·.1):=by unfold sg;simp
 have hL:∀r∈rs.map (·.1),r.args.length<=100000000:=fun r hr=>by
  obtain⟨z,hz,rfl⟩:=List.mem_map.1 hr
  exact(rt.a z hz).2
 have fin:∀{h':AH}{xo:AV}{yl:List (eY×AV)},h'.obj v=some (aP [I (cY (rs.map (·.1))).q,I (cY (rs.map (·.1))).b,xo] 3 25)->uh h' (cY (rs.map (·.1))) xo yl->Fr h h' (fun _=>False) ->
   aJ Pg [.cell 2 25,.tmp 3,.tmp 4] R [.ptr v 0,I (cY (rs.map (·.1))).at_,I (cY (rs.map (·.1))).err] h':=fun ho ha hf=>Dl ho (hR _ _ _ ha hf)
 have zero:∀{h':AH}{a e:Int},cY (rs.map (·.1))=⟨0,0,[],a,e⟩->h'.obj v=some (aP [I 0,I 0,aQ] 3 25)->Fr h h' (fun _=>False)->aJ Pg [.cell 2 25,.tmp 3,.tmp 4] R [.ptr v 0,I a,I e] h':=fun{h' a e} he ho hf=>by
  have:=fin (h':=h') (xo:=aQ) (yl:=[])
  rw[he]at this
  exact this ho ⟨⟨.inl ⟨rfl,rfl⟩,(fun _ h=>by cases h)⟩,rfl,(fun _ h=>by cases h),by simp⟩ hf
 have pq:∀{h':AH}{x y z:AV},h'.obj v=some (aP [I 0,I 0,aQ] 3 25)->(h'.put v 0 [x,y,z]).obj v=some (aP [x,y,z] 3 25):=fun ho=>by rw[dz ho];rfl
 have pN:∀{h':AH}{cs:List AV},Fr h h' (fun _=>False)->Fr h (h'.put v 0 cs) fun _=>False:=fun hf=>hf.put (.inr (by omega))
 have VQ:pf kL:=fun _ h=>by cases h
 simp only[F9.bR,q0.r.len.1,q0.r.len.2,zH]
 rw[er]
 refine⟨TW TB n0 h2,fun id hs _=>Wv id hs.1,Nn rs.length (a:=0) (deep:=0) (own:=none) (bk:=kL) rb q0 Dh VQ (by decide) (fun k h=>by cases h) (by omega) (by omega) (fun _ h=>h) ?_ ?_⟩
 ·intro pl e h3 hl be f3
  rw[oM]at hl
  obtain⟨cs,H8,c4,c5⟩:=be
  have eO:=Dr bX f3
  have lO:h3.obj v=some (aP [I 0,I 0,aQ] 3 25):=TW.obj f3 nJ rfl
  have jf:cY (rs.map (·.1))=⟨0,0,[],pl,e⟩:=by
   unfold cY
   rw[show(⟨[],[],[]⟩:Bk)=kL from rfl,hl]
  simp only[dA,zT,F9.bV,al,zD,zF,zC,zI,F9.bP]
  refine⟨fun _=>b,fun _ _=>by rw[H8];simp,⟨_,sk,?_⟩⟩
  simp only[aC,aj,au,H8,ap,zG,c4,c5,aa,zH,aE,lO,eL,bz]
  refine⟨⟨⟨.inr (by omega),fun _ _=>Qm⟩,rfl,rfl,by simp⟩,?_⟩
  simp only[F9.bH]
  exact zero jf (pq lO) (pN eO)
 ·intro bk xq xb xd yl h3 hl wq f3
  rw[oM]at hl
  have eO:=Dr bX f3
  have lO:h3.obj v=some (aP [I 0,I 0,aQ] 3 25):=TW.obj f3 nJ rfl
  have wm:=rt.ba eO
  obtain⟨bf,_,_,Jl⟩:=vJ hL rs.length (deep:=0) (own:=none) (i:=0) (bk:=kL) (bN:=bk) (by simp) Dh (fun k h=>by cases h) (by rw[<-po,oM];exact hl)
  obtain⟨nj,_,Lr⟩:=Jl bk kF.refl bf
  have nj:=nj rfl
  rw[<-po]at nj
  have sc:SC bk rs:=⟨bf,fun k d hd=>Lr k (Nat.zero_le _) (zM.1 hd).1 d hd,hn⟩
  have bp:yD bk:=R4 _ rfl hL Dh.i .nil hl
  have dl:bk.ds.length<=100000000:=by
   have:=No _ rfl hL Dh.i hl
   have h3:=rt.n
   simp only[zZ]at this
   have h4:kL.ds.length=0:=rfl
   omega
  have qY:RW n0 h3 b xr bk xq xb xd yl [] 0 0 false aQ aQ:=⟨⟨wq.n.1,(fun _ _ _ e=>by cases e),(fun _ _ _ e=>by cases e)⟩,wq.b,wq.q,wq.s,wq.d,.nil,⟨[],.nil,rfl,(fun _ h=>by cases h)⟩,by simp⟩
  simp only[dA,zS,F9.bV,al,zE,zD,zC,zH,F9.a_,wm.r.len.1,wm.r.len.2]
  rw[er]
  refine⟨SW b aQ aQ,fun id hs _=>?_,MM sc bp dl rs.length h3 _ _ 0 ⟨false,0,0⟩ 0 0 aQ aQ [] abB qY wm (by simp) nj (fun _ h=>h) fun h4 hw Cj=>?_⟩
  ·rcases hs with rfl |⟨_,_,e⟩ |⟨_,_,e⟩
   ·exact Wv _ U_
   ·cases e
   ·cases e
  have f4:=qY.tw Cj
  have iP:=Dr eO f4
  have za:h4.obj v=some (aP [I 0,I 0,aQ] 3 25):=TW.obj f4 lO rfl
  rw[oM]at hw
  rcases hw.cases with⟨l,xo,xp,hd,uI,_⟩ |⟨e,l,xo,xp,hd,uI⟩
  ·have lg:LG l:=LY hL _ ⟨⟨by decide,by decide⟩,⟨by decide,by decide⟩⟩ rfl (fun _ h=>h) hd (fun _ h=>by cases h)
   obtain⟨ol,o1,o2,o3⟩:=uI.o
   have C_:rK h4 xo ol:=⟨o1.dr,fun y hy=>(o3 y hy).1⟩
   have DY:∀y∈ol,OG y.1:=fun y hy=>by
    have:y.1∈l.map (·.1):=by rw[<-o2];exact List.mem_map_of_mem hy
    obtain⟨x,hx,e⟩:=List.mem_map.1 this
    rw[<-e];exact lg x hx
   have zh:ol.length<=4096:=by
    have:=congrArg List.length o2
    have:=uI.len
    simp only[zZ]at *;omega
   have ok:=bf.i.ok
   have yQ:=lens ok
   have jf:cY (rs.map (·.1))=if (il (aK bk.qs) (aK bk.bs) (l.map (·.1))).2≠0 then⟨0,0,[],(match l[(il (aK bk.qs) (aK bk.bs) (l.map (·.1))).1.toNat]? with |some x=>x.2 |none=>0),(il (aK bk.qs) (aK bk.bs) (l.map (·.1))).2⟩ else⟨aK bk.qs,aK bk.bs,l.map (·.1),0,0⟩:=by
    conv=>lhs;unfold cY
    rw[show(⟨[],[],[]⟩:Bk)=kL from rfl,hl]
    simp only[hd]
    all_goals rfl
   have follow:∀v6 h5,Fr h4 h5 (fun _=>False)->h5.obj v6=some (aP [I (aK bk.qs),I (aK bk.bs),xo] 3 25)->F9.n6 (fun id=>M id\/v<=id) (aJ Pg [.cell 2 25,.tmp 3,.tmp 4] R) (aJ Pg [.cell 2 25,.tmp 3,.tmp 4] R) (fun _ _ _=>False) (fun v h=>R (.bW v) h) (.ptr v 0) (.ptr b 0) (.ptr v6 0) h5:=fun v6 h5 f5 o6=>by
    simp only[F9.n6]
    refine dW o6 rfl fun _=>?_
    refine⟨fun _=>False,fun _ h=>h.elim,Hi (C_.ba f5) (fun y hy=>zR (DY y hy).1 (by decide)) fun h6 f6=>?_⟩
    have aax:∀o∈ol.map (·.1),Ix o:=fun o ho=>by
     obtain⟨y,hy,rfl⟩:=List.mem_map.1 ho
     exact(DY y hy).2
    rw[Ju aax,o2]
    have sW:=iP.cj (f5.cj f6)
    have f56:=f5.cj f6
    have Tv:=uI.ba f56
    have Fl:=f56.bU za
    have Jh:=C_.ba f56
    have UQ:=Eg (q:=aK bk.qs) (b:=aK bk.bs) (l:=l.map (·.1))
    have aL:=L6 (q:=aK bk.qs) (b:=aK bk.bs) (l:=l.map (·.1)) ok.tq ok.tb (by rw[zZ];exact uI.len)
    rw[zZ]at aL
    generalize il (aK bk.qs) (aK bk.bs) (l.map (·.1))=c at *
    obtain⟨c1,c2⟩:=c
    simp only at jf UQ aL
    simp only[CT,dE,zA,zB,aa,F9.n5,cq]
    by_cases k1:c2=0
    ·rw[zW (by simpa using k1)]at jf
     have eI:(c2 != 0)=false:=by simp[k1]
     simp only[eI,F9.n4,al,zE,zD,zC,zH,F9.n1]
     refine dW (f6.bU o6) rfl fun _=>?_
     simp only[aE,Fl,eL,bz]
     have hx:=Jh.gC.one.1
     refine⟨⟨.inr (by omega),by show(true&&(true&&(cR xo&&true)))=true;rw[hx];rfl,rfl,by simp⟩,?_⟩
     have:=fin (h':=h6.put v 0 [I (aK bk.qs),I (aK bk.bs),xo]) (xo:=xo) (yl:=ol)
     rw[jf]at this
     have fv:Fr h6 (h6.put v 0 [I (aK bk.qs),I (aK bk.bs),xo]) (·=v):=Fr.refl.put (.inl rfl)
     refine this (pq Fl) ⟨⟨Jh.gC.fr fv fun id o ho ht e=>?_,fun y hy=>(Jh.qs y hy).fr fv fun id o ho ht e=>?_⟩,o2,DY,zh⟩ (pN sW)
     ·subst e;rw[Fl]at ho;cases ho;exact absurd (ht rfl) (show(25:Nat)≠36 by decide)
     ·subst e;rw[Fl]at ho;cases ho;exact absurd (ht rfl) (show(25:Nat)≠3 by decide)
    ·rw[zX k1]at jf
     have eI:(c2 != 0)=true:=by simpa using k1
     have k2:=aL k1
     obtain⟨x,hx⟩:∃x,l[c1.toNat]?=some x:=⟨l[c1.toNat]'(by omega),zJ _⟩
     rw[hx]at jf
     simp only[eI,F9.n4,al,zD,zF,zC,zI,F9.n3]
     rcases Tv.x with⟨_,e0⟩ |⟨ix,rfl,FQ⟩
     ·have:l=[]:=by simpa using e0
      subst this
      simp at k2;omega
     ·have UA:v≠ix:=bM Fl FQ (show(25:Nat)≠3 by decide)
      have B4:((l.map (·.2)).flatMap cX)[c1.toNat]?=some (I x.2):=by
       have:=ep (f:=cX) (k:=1) gJ (l.map (·.2)) c1.toNat 0 (by omega)
       rw[Nat.mul_one,Nat.add_zero,List.getElem?_map,hx]at this
       exact this
      refine⟨fun i=>if i=4 then b else ix,fun i _=>by show h6.obj (if i=4 then b else ix)≠none;split<;>simp[Tv.b,FQ],⟨_,sk,?_⟩⟩
      simp only[aC,aj,au,Tv.b,ap,zG,zA,zB,aa,zV,zH,kN,FQ,Nat.mul_one,B4,zZ]
      refine⟨⟨by omega,by omega⟩,by simp,?_⟩
      simp only[aE,Fl,eL,bz]
      refine⟨⟨⟨.inr (by omega),fun i _=>by show v≠(if i=4 then b else ix);split;exact Qm;exact UA⟩,rfl,rfl,by simp⟩,?_⟩
      simp only[F9.n2]
      exact zero jf (pq Fl) (pN sW)
   have tq:∀{h5:AH}{M5:Nat->Prop}{R5:AE->AH->Prop},Fr h4 h5 (fun _=>False)->R5 (.ret (I (aK bk.qs))) h5->aA Pg 17 [xq] h5 M5 R5:=fun f5 hr=>vk (uI.ba f5).q.dr (fun r hr=>by have:=ok.sq r hr;omega) ok.tq.2 (by omega) hr
   have tb:∀{h5:AH}{M5:Nat->Prop}{R5:AE->AH->Prop},Fr h4 h5 (fun _=>False)->R5 (.ret (I (aK bk.bs))) h5->aA Pg 17 [xb] h5 M5 R5:=fun f5 hr=>vk (uI.ba f5).s.dr (fun r hr=>by have:=ok.sb r hr;omega) ok.tb.2 (by omega) hr
   have hx:=C_.gC.one
   have VL:dU (fun i=>[(0,1),(1,1),(2,1)][i]?) ([Value.int .i64 0,.int .i64 0,.slice none 0 0].map .sc) [(0,I (aK bk.qs)),(1,I (aK bk.bs)),(2,xo)]=some [I (aK bk.qs),I (aK bk.bs),xo]:=by simp[dU,bt,dt,hx.2]
   have Da:[I (aK bk.qs),I (aK bk.bs),xo].all cR=true:=by show(true&&(true&&(cR xo&&true)))=true;rw[hx.1];rfl
   have late:∀h5,Fr h4 h5 (fun _=>False)->∀v6,h4.next<=v6->h5.obj v6=some (aP ([Value.int .i64 0,.int .i64 0,.slice none 0 0].map AV.sc) 3 25)->aD (some 3) (.ptr v6 0) (.agg [I (aK bk.qs),I (aK bk.bs),xo]) h5 (fun id=>M id\/v<=id) fun rS=>F9.n6 (fun id=>M id\/v<=id) (aJ Pg [.cell 2 25,.tmp 3,.tmp 4] R) (aJ Pg [.cell 2 25,.tmp 3,.tmp 4] R) (fun _ _ _=>False) (fun v h=>R (.bW v) h) (.ptr v 0) (.ptr b 0) (.ptr v6 0) rS:=fun h5 f5 v6 hv6 o6=>by
    have zm:=iP.next
    simp only[aE,o6,eL,bz]
    refine⟨⟨.inr (by omega),Da,rfl,by simp⟩,?_⟩
    refine follow v6 _ (f5.put (.inr hv6)) ?_
    rw[dz o6];rfl
   simp only[F9.bj,aC,aj,au,uI.b,ap,zG,zA,zB,aa,F9.aS,al,zE,zD,zC,zH,F9.n7,zI]
   have zm:=iP.next
   refine⟨⟨fun _=>False,fun _ h=>h.elim,tq Fr.refl ⟨⟨fun _=>False,fun _ h=>h.elim,tb Fr.refl ⟨_,VL,?_⟩⟩,?_⟩⟩,?_⟩
   ·exact jt Da rfl rfl rfl (fun id hid=>.inr (by omega)) fun v6 h5 f5 _ o6=>follow v6 h5 f5 o6
   ·rw[aV]
    refine⟨rfl,⟨fun _=>False,fun _ h=>h.elim,tb (Fr.refl.alloc _) ⟨_,VL,?_⟩⟩⟩
    exact late _ (Fr.refl.alloc _) _ (zU _) (AH.b_ _ _)
   ·rw[aV]
    refine⟨rfl,⟨fun _=>False,fun _ h=>h.elim,tq (Fr.refl.alloc _) ⟨fun _=>False,fun _ h=>h.elim,tb (Fr.refl.alloc _) ⟨_,VL,?_⟩⟩⟩⟩
    exact late _ (Fr.refl.alloc _) _ (zU _) (AH.b_ _ _)
  ·have jf:cY (rs.map (·.1))=⟨0,0,[],e,115⟩:=by
    unfold cY
    rw[show(⟨[],[],[]⟩:Bk)=kL from rfl,hl]
    simp only[hd]
   simp only[F9.bj,aC,aj,au,uI.b,ap,zG,zA,zB,aa,F9.aS,al,zD,zF,zC,zI,F9.n9]
   refine⟨fun _=>b,fun _ _=>by rw[uI.b];simp,⟨_,sk,?_⟩⟩
   simp only[aC,aj,au,uI.b,ap,zG,zA,zB,aa,zH,aE,za,eL,bz]
   refine⟨⟨⟨.inr (by omega),fun _ _=>Qm⟩,rfl,rfl,by simp⟩,?_⟩
   simp only[F9.n8]
   exact zero jf (pq za) (pN iP)
end
end
end Go.Proofs.YtjehibknlmehmaaGreat
