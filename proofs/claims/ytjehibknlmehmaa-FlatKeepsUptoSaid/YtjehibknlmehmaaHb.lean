/- The document writes out what the plain form says. No condition. -/
import Derived.Test.YtjehibknlmehmaaHa
import Derived.Test.YtjehibknlmehmaaGt
set_option maxRecDepth 100000
namespace Go.Proofs.Ytjehibknlmehmaa
section
open Go.Ab
attribute [-simp] aX aF
def TR(t:TypeId):Bool:=t==54||t==49||t==3
structure RW (n0:Nat) (h:AH) (b:Nat) (xr:AV) (bk:Bk) (xq xb xd:AV) (yl:List (bY×AV)) (l:OL) (pl er:Int) (many:Bool) (xo xp:AV):Prop where
 n:n0<=b/\cP (n0<=·) xo/\cP (n0<=·) xp
 b:h.obj b=some (EQ xr xq xb xd pl er many xo xp)
 q:bN jH 3 85 h xq bk.qs
 s:bN jH 3 85 h xb bk.bs
 d:DT h xd bk.ds yl
 x:bN cq 1 3 h xp (l.map (·.2))
 o:∃ol:List (dS×AV),bN cf 7 49 h xo ol/\ol.map (·.1)=l.map (·.1)/\∀y∈ol,cH cq 1 3 h y.2 y.1.aI/\Sep xp y.2/\cP (n0<=·) y.2
 len:l.length<=4096
def SW(b:Nat)(xo xp:AV)(id:Nat):Prop:=id=b\/(∃off n,xo=.sl id off n)\/∃off n,xp=.sl id off n
theorem SW.trans{h h1 h2:AH}{b:Nat}{xo xp iG jc:AV}(f1:Fr h h1 (SW b xo xp))(hn:∀id,SW b iG jc id->SW b xo xp id\/h.next<=id)(f2:Fr h1 h2 (SW b iG jc)):Fr h h2 (SW b xo xp):=f1.trans (f2.mono hn)
theorem SW.aO{h h1:AH}{b:Nat}{xo xp:AV}(f:Fr h h1 fun _=>False):Fr h h1 (SW b xo xp):=f.mono fun _ h=>h.elim
def WP(n0:Nat)(xr:AV)(bk:Bk)(xq xb xd:AV)(yl:List (bY×AV))(b:Nat)(h0:AH)(xo0 Xy:AV)(h:AH)(res:Except Int OL):Prop:=
 match res with
 |.ok l=>∃xo xp,RW n0 h b xr bk xq xb xd yl l 0 0 false xo xp/\∀id,SW b xo xp id->SW b xo0 Xy id\/h0.next<=id
 |.error e=>∃l xo xp,RW n0 h b xr bk xq xb xd yl l e 115 true xo xp
section
variable {n0:Nat} {h h':AH} {b:Nat} {xr:AV} {bk:Bk} {xq xb xd:AV} {yl:List (bY×AV)} {l:OL} {pl er:Int} {many:Bool} {xo xp:AV}
theorem RW.aU(a:RW n0 h b xr bk xq xb xd yl l pl er many xo xp)(f:Fr h h' fun _=>False):RW n0 h' b xr bk xq xb xd yl l pl er many xo xp:=by
 obtain⟨ol,o1,o2,o3⟩:=a.o
 exact⟨a.n,f.bM a.b,a.q.aO f fun _ _ h=>h,a.s.aO f fun _ _ h=>h,a.d.aU f,a.x.aO f fun _ _ h=>h,⟨ol,o1.aO f fun _ _ h=>h,o2,fun y hy=>⟨(o3 y hy).1.aU f,(o3 y hy).2⟩⟩,a.len⟩
theorem RT.HE{rs:List (Row×AV)}(a:RT h xr rs)(f:Fr h h' (TW TR n0 h)):RT h' xr rs:=⟨a.r.oO f rfl,fun y hy=>⟨(a.a y hy).1.oO f rfl,(a.a y hy).2⟩,a.n⟩
theorem RW.fX(a:RW n0 h b xr bk xq xb xd yl l pl er many xo xp):ba xo=false/\∀K:AV->Prop,bK xo K=K (I l.length):=by
 obtain⟨ol,o1,o2,_⟩:=a.o
 have nl:ol.length=l.length:=by have:=congrArg List.length o2;simpa using this
 rw[<-nl]
 exact o1.cF.len
theorem RW.sw(a:RW n0 h b xr bk xq xb xd yl l pl er many xo xp){id:Nat}(hs:SW b xo xp id):TW TR n0 h id:=by
 rcases hs with rfl |⟨off,n,e⟩ |⟨off,n,e⟩
 ·exact⟨a.n.1,_,a.b,rfl,rfl⟩
 ·obtain⟨ol,o1,_⟩:=a.o
  rcases o1 with⟨e1,_⟩ |⟨j,e1,ho⟩
  ·rw[e1]at e;cases e
  ·rw[e1]at e;cases e
   exact⟨a.n.2.1 _ _ _ e1,_,ho,rfl,rfl⟩
 ·rcases a.x with⟨e1,_⟩ |⟨j,e1,ho⟩
  ·rw[e1]at e;cases e
  ·rw[e1]at e;cases e
   exact⟨a.n.2.2 _ _ _ e1,_,ho,rfl,rfl⟩
theorem RW.tw(a:RW n0 h b xr bk xq xb xd yl l pl er many xo xp)(f:Fr h h' (SW b xo xp)):Fr h h' (TW TR n0 h):=f.mono fun _ hs=>a.sw hs
theorem RW.dH(a:RW n0 h b xr bk xq xb xd yl l pl er many xo xp)(f:Fr h h' (SW b xo xp)){z:AV}{zl:List Int}(hz:cH cq 1 3 h z zl)(hs:Sep xp z):cH cq 1 3 h' z zl/\∀fj fi,(∀id,SW b fj fi id->SW b xo xp id\/h.next<=id)->Sep fi z:=by
 have no:∀id off n,z=.sl id off n->∀o,h.obj id=some o->(o.ro=false->o.ty=3)->¬SW b xo xp id:=fun id off n e o ho ht hsw=>by
  rcases hsw with rfl |⟨tp,n',e'⟩ |⟨tp,n',e'⟩
  ·rw[a.b]at ho;cases ho
   exact absurd (ht rfl) (show(54:Nat)≠3 by decide)
  ·obtain⟨ol,o1,_⟩:=a.o
   rcases o1 with⟨e1,_⟩ |⟨j,e1,hj⟩
   ·rw[e1]at e';cases e'
   ·rw[e1]at e';cases e'
    rw[hj]at ho;cases ho
    exact absurd (ht rfl) (show(49:Nat)≠3 by decide)
  ·exact hs _ _ _ _ _ e' e
 rcases hz with⟨rfl,rfl⟩ |⟨x,c,rfl,rfl⟩ |⟨id,rest,ro,j3,rfl,ht,ho⟩
 ·exact⟨.inl ⟨rfl,rfl⟩,fun _ _ _ _ _ _ _ _ _ e=>by cases e⟩
 ·exact⟨.inr (.inl ⟨x,c,rfl,rfl⟩),fun _ _ _ _ _ _ _ _ _ e=>by cases e⟩
 ·have jF:=no id 0 _ rfl _ ho ht
  refine⟨.inr (.inr ⟨id,rest,ro,j3,rfl,ht,f.obj ho jF⟩),fun fj fi hn i off n tp n' e1 e2=>?_⟩
  cases e2
  rcases hn id (.inr (.inr ⟨_,_,e1⟩)) with h1 |h1
  ·exact jF h1
  ·have:=h.lt _ _ ho
   omega
theorem RW.Mw(a:RW n0 h b xr bk xq xb xd yl l pl er many xo xp){off:Nat}{v:AV}{fD FY:Int}{uJ:Bool}(hv:(EQ xr xq xb xd pl er many xo xp).cells.set off v=(EQ xr xq xb xd fD FY uJ xo xp).cells):RW n0 (h.put b off [v]) b xr bk xq xb xd yl l fD FY uJ xo xp/\Fr h (h.put b off [v]) (SW b xo xp):=by
 have f:Fr h (h.put b off [v]) (·=b):=Fr.refl.put (.inl rfl)
 have o:=cX (off:=off) (cs:=[v]) a.b
 generalize h.put b off [v]=h1 at *
 have g:Fr h h1 (SW b xo xp):=f.mono fun _ e=>.inl e
 have ne:∀{j:Nat}{o:AO},h.obj j=some o->o.ty≠54->¬j=b:=fun ho ht e=>by subst e;rw[a.b]at ho;cases ho;exact ht rfl
 obtain⟨ol,o1,o2,o3⟩:=a.o
 refine⟨⟨a.n,?_,dw a.q f fun _ _ ho ht _=>ne ho (by rw[ht];decide),dw a.s f fun _ _ ho ht _=>ne ho (by rw[ht];decide),a.d.BD f fun _ _ ho ht=>ne ho (by rcases ht with e |e<;>rw[e]<;>decide),dw a.x f fun _ _ ho ht _=>ne ho (by rw[ht];decide),
  ⟨ol,dw o1 f fun _ _ ho ht _=>ne ho (by rw[ht];decide),o2,fun y hy=>⟨(o3 y hy).1.fr f fun id o ho ht e=>?_,(o3 y hy).2⟩⟩,a.len⟩,g⟩
 ·rw[o]
  simp only[aN]at hv
  simp only[putCells,hv]
 ·subst e
  have hb:=a.b
  rw[ho]at hb;cases hb
  exact absurd (ht rfl) (show(54:Nat)≠3 by decide)
end
section
variable {h:AH} {M:Nat->Prop} {R:AE->AH->Prop} {n0 b:Nat} {xr xo xp xf:AV} {bk:Bk} {xq xb xd:AV} {yl:List (bY×AV)} {l:OL} {place:Int} {o:dS}
theorem G7(rw:RW n0 h b xr bk xq xb xd yl l 0 0 false xo xp)(hq:cH cq 1 3 h xf o.aI)(sep:Sep xp xf)(Bn:cP (n0<=·) xf)(hM:∀id,SW b xo xp id->M id)
  (hR:∀h',WP n0 xr bk xq xb xd yl b h xo xp h' (jz l o place)->Fr h h' (SW b xo xp)->R (.ret (.dY [])) h') :
  aE Pg 34 [.ptr b 0,.agg (cf (o,xf)),I place] h M R:=by
 apply vZ.aM
 unfold vZ.n9
 refine dB (jU hq.one.1) fun vo h1 f1 lG oo=>?_
 have eR:=rw.aU f1
 have Fe:=hq.aU f1
 have mb:M b:=hM b (.inl rfl)
 unfold jz at hR
 simp only[vZ.n8,aD,ag,au,eR.b,ao,zG,zA,zB,ab,vZ.n7,aj,zE,zD,zC,zH,vZ.n6,eR.fX.1,eR.fX.2,eG]
 by_cases k1:l.length=4096
 ·rw[zX k1]at hR
  have eK:((l.length:Int)==4096)=true:=by rw[k1];rfl
  simp only[eK,vZ.n5,aj,zD,zF,zC,zI,vZ.n4,aD,ag,aF,eR.b,mw,bG,zG]
  refine⟨⟨.inl mb,rfl,rfl,by simp⟩,?_⟩
  obtain⟨lB,f2⟩:=eR.Mw (off:=6) (v:=B true) (fD:=0) (FY:=0) (uJ:=true) rfl
  generalize h1.put b 6 [B true]=h2 at *
  simp only[vZ.n3,aD,ag,aF,lB.b,dC,bG,zG]
  refine⟨⟨.inl mb,rfl,rfl,by simp⟩,?_⟩
  obtain⟨pW,f3⟩:=lB.Mw (off:=4) (v:=I place) (fD:=place) (FY:=0) (uJ:=true) rfl
  generalize h2.put b 4 [I place]=h3 at *
  simp only[pW.b,dC,bG]
  refine⟨⟨.inl mb,rfl,rfl,by simp⟩,?_⟩
  obtain⟨st,f4⟩:=pW.Mw (off:=5) (v:=I 115) (fD:=place) (FY:=115) (uJ:=true) rfl
  generalize h3.put b 5 [I 115]=h4 at *
  exact hR h4 ⟨l,xo,xp,st⟩ (SW.trans (SW.aO f1) (fun _ h=>.inl h) (SW.trans f2 (fun _ h=>.inl h) (SW.trans f3 (fun _ h=>.inl h) f4)))
 ·rw[zW k1]at hR
  have eK:((l.length:Int)==4096)=false:=by
   have:¬(l.length:Int)=4096:=by omega
   simpa using this
  obtain⟨ol,o1,o2,o3⟩:=eR.o
  have nl:ol.length=l.length:=by have:=congrArg List.length o2;simpa using this
  have hlen:=rw.len
  simp only[eK,vZ.n5,aj,zE,zD,zC,zH,vZ.n2,aD,ag,au,eR.b,ao,zG,zA,zB,ab]
  refine di oo rfl fun _=>?_
  refine pB (f:=cf) (t:=(o,xf)) eW (by omega) rfl (by omega) rfl (jU hq.one.1) o1 ?_ (by omega) fun y h6 hy Hg f6=>?_
  ·intro id off n e
   rcases o1 with⟨e1,_⟩ |⟨j,e1,ho⟩
   ·rw[e1]at e;cases e
   ·rw[e1]at e;cases e
    exact .inl (hM _ (.inr (.inl ⟨_,_,e1⟩)))
  ·have oy:[y].all cG=true:=by show(cG y&&true)=true;rw[hy.cF.one.1];rfl
   have b6:=f6.obj eR.b (fM o1 eR.b (show(54:Nat)≠49 by decide))
   have g6:Fr h h6 (TW TR n0 h):=by
    refine TW.trans (TW.aO f1) (f6.mono fun i ⟨off,n,e⟩=>?_)
    rcases o1 with⟨e1,_⟩ |⟨j,e1,ho⟩
    ·rw[e1]at e;cases e
    ·rw[e1]at e;cases e
     exact⟨rw.n.2.1 _ _ _ e1,_,ho,rfl,rfl⟩
   have no:∀{id:Nat}{p:AO},h1.obj id=some p->p.ty≠49->¬ ∃off n,xo=.sl id off n:=fun ho ht=>fM o1 ho ht
   have x6:=dw eR.x f6 fun _ _ ho ht _=>no ho (by rw[ht];decide)
   have qq6:=dw eR.q f6 fun _ _ ho ht _=>no ho (by rw[ht];decide)
   have ss6:=dw eR.s f6 fun _ _ ho ht _=>no ho (by rw[ht];decide)
   have dd6:=eR.d.BD f6 fun _ _ ho ht=>no ho (by rcases ht with e |e<;>rw[e]<;>decide)
   have q6:∀{z:AV}{zl:List Int},cH cq 1 3 h1 z zl->cH cq 1 3 h6 z zl:=fun hz=>hz.fr f6 fun id o ho ht ⟨off,n,e⟩=>by
    rcases o1 with⟨e1,_⟩ |⟨j,e1,hj⟩
    ·rw[e1]at e;cases e
    ·rw[e1]at e;cases e
     rw[hj]at ho;cases ho
     exact absurd (ht rfl) (show(49:Nat)≠3 by decide)
   simp only[aD,ag,aF,b6,hy.cF.one.2,bG,zG]
   refine⟨⟨.inl mb,oy,rfl,by simp⟩,?_⟩
   have f7:Fr h6 (h6.put b 7 [y]) (·=b):=Fr.refl.put (.inl rfl)
   have b7:=cX (off:=7) (cs:=[y]) b6
   generalize h6.put b 7 [y]=h7 at *
   have g7:=TW.trans g6 (TW.iO (T:=TR) f7 rw.n.1 b6 rfl rfl)
   have nb:∀{j:Nat}{o:AO},h6.obj j=some o->o.ty≠54->¬j=b:=fun ho ht e=>by subst e;rw[b6]at ho;cases ho;exact ht rfl
   have x7:=dw x6 f7 fun _ _ ho ht _=>nb ho (by rw[ht];decide)
   have qq7:=dw qq6 f7 fun _ _ ho ht _=>nb ho (by rw[ht];decide)
   have ss7:=dw ss6 f7 fun _ _ ho ht _=>nb ho (by rw[ht];decide)
   have dd7:=dd6.BD f7 fun _ _ ho ht=>nb ho (by rcases ht with e |e<;>rw[e]<;>decide)
   have y7:=dw hy f7 fun _ _ ho ht _=>nb ho (by rw[ht];decide)
   have q7:∀{z:AV}{zl:List Int},cH cq 1 3 h6 z zl->cH cq 1 3 h7 z zl:=fun hz=>hz.fr f7 fun id o ho ht e=>by
    subst e
    rw[b6]at ho;cases ho
    exact absurd (ht rfl) (show(54:Nat)≠3 by decide)
   simp only[vZ.n1,aD,ag,au,b7,putCells,List.set_cons_zero,List.set_cons_succ,ao,zG,zA,zB,ab]
   refine pB (f:=cq) (t:=place) eX (by omega) rfl (by omega) rfl rfl x7 ?_ (by simp only[zZ];omega) fun z h8 hz lF f8=>?_
   ·intro id off n e
    rcases x7 with⟨e1,_⟩ |⟨j,e1,ho⟩
    ·rw[e1]at e;cases e
    ·rw[e1]at e;cases e
     exact .inl (hM _ (.inr (.inr ⟨_,_,e1⟩)))
   ·have oz:[z].all cG=true:=by show(cG z&&true)=true;rw[hz.cF.one.1];rfl
    have b8:=f8.obj b7 (fM x7 b7 (show(54:Nat)≠3 by decide))
    have g8:Fr h h8 (TW TR n0 h):=by
     refine TW.trans g7 (f8.mono fun i ⟨off,n,e⟩=>?_)
     rcases x7 with⟨e1,_⟩ |⟨j,e1,ho⟩
     ·rw[e1]at e;cases e
     ·rw[e1]at e;cases e
      exact⟨rw.n.2.2 _ _ _ e1,_,ho,rfl,rfl⟩
    have nx:∀{id:Nat}{p:AO},h7.obj id=some p->p.ty≠3->¬ ∃off n,xp=.sl id off n:=fun ho ht=>fM x7 ho ht
    have qq8:=dw qq7 f8 fun _ _ ho ht _=>nx ho (by rw[ht];decide)
    have ss8:=dw ss7 f8 fun _ _ ho ht _=>nx ho (by rw[ht];decide)
    have dd8:=dd7.BD f8 fun _ _ ho ht=>nx ho (by rcases ht with e |e<;>rw[e]<;>decide)
    have y8:=dw y7 f8 fun _ _ ho ht _=>nx ho (by rw[ht];decide)
    simp only[aD,ag,aF,b8,hz.cF.one.2,bG,zG]
    refine⟨⟨.inl mb,oz,rfl,by simp⟩,?_⟩
    have f9:Fr h8 (h8.put b 8 [z]) (·=b):=Fr.refl.put (.inl rfl)
    have b9:=cX (off:=8) (cs:=[z]) b8
    generalize h8.put b 8 [z]=h9 at *
    have g9:=TW.trans g8 (TW.iO (T:=TR) f9 rw.n.1 b8 rfl rfl)
    have Kj:∀{j:Nat}{o:AO},h8.obj j=some o->o.ty≠54->¬j=b:=fun ho ht e=>by subst e;rw[b8]at ho;cases ho;exact ht rfl
    have q9:∀{z:AV}{zl:List Int},cH cq 1 3 h8 z zl->cH cq 1 3 h9 z zl:=fun hz=>hz.fr f9 fun id o ho ht e=>by
     subst e
     rw[b8]at ho;cases ho
     exact absurd (ht rfl) (show(54:Nat)≠3 by decide)
    have zt:∀{v:AV}{zl:List Int},cH cq 1 3 h1 v zl->Sep xp v->cH cq 1 3 h9 v zl/\Sep z v:=fun{v zl} hv hs=>by
     have K9:cH cq 1 3 h7 v zl:=q7 (q6 hv)
     exact⟨q9 (ZA K9 f8 hs),B9 lF K9⟩
    have lt:∀{a b:AH}{S:Nat->Prop},Fr a b S->∀{x:AV},cP (b.next<=·) x->cP (a.next<=·) x:=fun f x hx id off n e=>zR f.next (hx _ _ _ e)
    have s6:Fr h h6 (SW b xo xp):=(SW.aO f1).trans (f6.mono fun _ e=>.inl (.inr (.inl e)))
    have s7:Fr h h7 (SW b xo xp):=s6.trans (f7.mono fun _ e=>.inl (.inl e))
    have s8:Fr h h8 (SW b xo xp):=s7.trans (f8.mono fun _ e=>.inl (.inr (.inr e)))
    have s9:Fr h h9 (SW b xo xp):=s8.trans (f9.mono fun _ e=>.inl (.inl e))
    refine hR h9 ⟨y,z,⟨⟨rw.n.1,fun id off n e=>?_,fun id off n e=>?_⟩,?_,?_,?_,?_,?_,⟨ol++[(o,xf)],?_,by simp[o2],fun v hv=>?_⟩,by simp only[List.length_append,List.length_singleton];omega⟩,fun id hid=>hid.elim (fun e=>.inl (.inl e)) fun hid=>.inr (hid.elim (fun⟨off,n,e⟩=>lt (TW.aO (T:=TR) (n0:=n0) f1) Hg _ _ _ e) fun⟨off,n,e⟩=>lt g7 lF _ _ _ e)⟩ s9
    ·have h1:=lt (TW.aO (T:=TR) (n0:=n0) f1) Hg _ _ _ e
     have h2:=h.lt _ _ rw.b
     have h3:=rw.n.1
     omega
    ·have h1:=lt g7 lF _ _ _ e
     have h2:=h.lt _ _ rw.b
     have h3:=rw.n.1
     omega
    ·simpa[putCells] using b9
    ·exact dw qq8 f9 fun _ _ ho ht _=>Kj ho (by rw[ht];decide)
    ·exact dw ss8 f9 fun _ _ ho ht _=>Kj ho (by rw[ht];decide)
    ·exact dd8.BD f9 fun _ _ ho ht=>Kj ho (by rcases ht with e |e<;>rw[e]<;>decide)
    ·have:=dw hz f9 fun _ _ ho ht _=>Kj ho (by rw[ht];decide)
     simpa using this
    ·exact dw y8 f9 fun _ _ ho ht _=>Kj ho (by rw[ht];decide)
    ·rcases List.mem_append.1 hv with hv |hv
     ·exact⟨(zt (o3 v hv).1 (o3 v hv).2.1).1,(zt (o3 v hv).1 (o3 v hv).2.1).2,(o3 v hv).2.2⟩
     ·have:=List.mem_singleton.1 hv
      subst this
      exact⟨(zt Fe sep).1,(zt Fe sep).2,Bn⟩
theorem AY{x0 x2:AV}{rl:List fZ}{a:Arg}(hx:cH jH 3 85 h x2 rl)(hl:rl.length<=100000000)(hs:∀r∈rl,1<=r.size/\0<=r.from_/\r.from_+r.size<=aK rl)(ht:aK rl<=64)(nu:gB rl a=0)
  (hR:∀h',Fr h h' (fun _=>False)->R (.ret (I (fE rl a))) h'):aE Pg 32 [x0,.agg a.enc,x2] h M R:=by
 apply LV.aM
 unfold LV.n3
 refine dB (cs:=a.enc) (Arg.iE a) fun va h1 f1 _ oa=>?_
 obtain⟨g,hg,w1⟩:=Hc hs ht nu
 unfold LV.n2
 refine⟨fun _=>va,fun _ _=>by rw[oa];simp,?_⟩
 simp only[ag,au,oa,ao,zG,Arg.enc,zA,zB,ab,zH]
 refine⟨fun _=>False,fun _ h=>h.elim,rk (hx.aU f1) hl ?_ ?_⟩
 ·intro hn;rw[hg]at hn;cases hn
 ·intro i g' hi Br
  rw[hg]at Br;cases Br
  refine dn (k:=1) (hx.aU f1) jk hi (by omega) rfl fun _=>?_
  simp only[aT,w1,LV.n1]
  simpa using hR h1 f1
end
end
section
open Go.Ab
attribute [-simp] aX aF
abbrev op0(w:gJ):dS:=⟨0,ByteArray.empty,[],0,w.is,w.cN,w.value⟩
abbrev qV(w:gJ):List AV:=cf (op0 w,aW)
def Oz(n0 b:Nat)(xr:AV)(bk:Bk)(xq xb xd:AV)(yl:List (bY×AV))(rs:List (Row×AV))(k n:Nat):Prop:=
 ∀(h:AH)(M:Nat->Prop)(R:AE->AH->Prop)(a:Nat)(d:bY)(tF:AV)(qs:List Int)(xz:AV)(w:gJ)(pl:Int)(xo xp:AV)(l:OL),bk.ds[k]?=some d->RW n0 h b xr bk xq xb xd yl l 0 0 false xo xp->RT h xr rs->a+n<=rs.length ->
  bN hZ 1 9 h tF d.params->cH cq 1 3 h xz qs->Sep xp xz->qs.length=d.params.length->GB bk k d.params (sg rs a n)->(∀id,SW b xo xp id->M id) ->
  (∀h',WP n0 xr bk xq xb xd yl b h xo xp h' (bT bk (rs.map (·.1)) k (d.params.zip qs) w pl (sg rs a n) l)->Fr h h' (SW b xo xp)->R (.ret (.dY [])) h') ->
  aE Pg 55 [.ptr b 0,.agg (ky (d,tF)),I a,I (a+n),xz,.agg (qV w),I pl] h M R
def Xi(bk:Bk)(k:Nat)(nm:ByteArray)(n:Nat):Prop:=(eB bk.ds nm=none/\0<cu nm)\/∃j d,j<k/\bk.ds[j]?=some d/\d.name=nm/\n=d.params.length/\cu nm=0
def D6(n0 b:Nat)(xr:AV)(bk:Bk)(xq xb xd:AV)(yl:List (bY×AV))(rs:List (Row×AV))(k:Nat):Prop:=
 ∀(h:AH)(M:Nat->Prop)(R:AE->AH->Prop)(nm:ByteArray)(qs:List Int)(xz:AV)(w:gJ)(pl:Int)(xo xp:AV)(l:OL),RW n0 h b xr bk xq xb xd yl l 0 0 false xo xp->RT h xr rs ->
  cH cq 1 3 h xz qs->Sep xp xz->cP (n0<=·) xz->Xi bk k nm qs.length->(∀id,SW b xo xp id->M id) ->
  (∀h',WP n0 xr bk xq xb xd yl b h xo xp h' (iU bk (rs.map (·.1)) k nm qs w pl l)->Fr h h' (SW b xo xp)->R (.ret (.dY [])) h') ->
  aE Pg 33 [.ptr b 0,Sb nm,xz,.agg (qV w),I pl] h M R
theorem GB.Mn{bk:Bk}{k:Nat}{ps:List ByteArray}{r:Row}{l:List Row}(h:GB bk k ps (r::l))(hk:r.kind≠bj):r.kind=cQ/\∀a∈r.args,eV a.name ps=true:=by
 cases h with
 |S5 h0 h1 h2 h3 h4=>exact⟨h0,h3⟩
 |li h0 h1 h2 h3=>exact absurd h0 hk
theorem HO{n:ByteArray}:∀{ps:List ByteArray}{qs:List Int}{i j:Nat},fQ n ps i=some (i+j)->ps.length=qs.length->qs[j]?=some (mX (ps.zip qs) n)
 |[],qs,i,j,h,_=>by cases h
 |p::ps,[],i,j,h,hl=>by simp at hl
 |p::ps,q::qs,i,j,h,hl=>by
  simp only[fQ]at h
  unfold mX
  simp only[List.zip_cons_cons,List.find?_cons]
  by_cases e:n=p
  ·rw[zX e]at h
   have:j=0:=by have:=Option.some.inj h;omega
   subst this
   rw[zL e.symm];rfl
  ·rw[zW e]at h
   rw[zK (fun h=>e h.symm)]
   have h1:=(wS h).1
   obtain⟨m,hm⟩:∃m,j=m+1:=⟨j-1,by omega⟩
   subst hm
   have ih:=HO (n:=n) (ps:=ps) (qs:=qs) (i:=i+1) (j:=m) (by rw[h];congr 1;omega) (by simpa using hl)
   unfold mX at ih
   simpa using ih
section
variable {n0 b:Nat} {xr:AV} {bk:Bk} {xq xb xd:AV} {yl:List (bY×AV)} {rs:List (Row×AV)} {k:Nat}
theorem NQ(sc:SC bk rs)(Hq:bk.ds.length<=100000000)(hB:∀j n,j<k->Oz n0 b xr bk xq xb xd yl rs j n):D6 n0 b xr bk xq xb xd yl rs k:=by
 intro h M R nm qs xz w pl xo xp l rw rt hq sep Bn sO hM hR
 apply si.aM
 unfold si.aQ
 refine dB rfl fun vo h1 f1 lG oo=>?_
 have eR:=rw.aU f1
 have Fe:=hq.aU f1
 simp only[si.n9]
 refine⟨fun _=>False,fun _ h=>h.elim,nc ?_⟩
 simp only[eU,gt_iff_lt]
 rcases sO with⟨sO,Fu⟩ |⟨j,d,hj,hd,yN,hlen,Fu⟩
 ·rw[zg sO]at hR
  simp only[zL Fu,si.n8,aj,zD,zF,zC,zI,si.n7,ag,aF,oo,dC,bG,zG]
  refine⟨⟨.inr lG,rfl,rfl,by simp[cf]⟩,?_⟩
  have f2:Fr h (h1.put vo 0 [I 1]) fun _=>False:=f1.put (.inr lG)
  have o2:=cX (off:=0) (cs:=[I 1]) oo
  generalize h1.put vo 0 [I 1]=h2 at *
  simp only[si.n6,ag,aF,o2,lP,bG,zG]
  refine⟨⟨.inr lG,rfl,rfl,by simp[cf]⟩,?_⟩
  have f3:Fr h (h2.put vo 1 [Sb nm]) fun _=>False:=f2.put (.inr lG)
  have o3:=cX (off:=1) (cs:=[Sb nm]) o2
  generalize h2.put vo 1 [Sb nm]=h3 at *
  simp only[si.n5,ag,aF,o3,Fe.one.2,bG,zG]
  refine⟨⟨.inr lG,by show(cG xz&&true)=true;rw[Fe.one.1];rfl,rfl,by simp[cf]⟩,?_⟩
  have f4:Fr h (h3.put vo 2 [xz]) fun _=>False:=f3.put (.inr lG)
  have o4:=cX (off:=2) (cs:=[xz]) o3
  generalize h3.put vo 2 [xz]=h4 at *
  simp only[si.n4]
  refine di o4 rfl fun _=>?_
  refine⟨SW b xo xp,fun id hs _=>.inl (hM id hs),G7 (o:=jN 1 nm qs 0 w) (xf:=xz) (rw.aU f4) (hq.aU f4) sep Bn (fun _ h=>h) fun h5 hw f5=>?_⟩
  have fin:=hR h5 ?_ (SW.trans (SW.aO f4) (fun _ h=>.inl h) f5)
  ·simpa[aJ,l9,jo] using fin
  ·cases jA:jz l (jN 1 nm qs 0 w) pl with
   |ok l'=>
    rw[jA]at hw
    obtain⟨fj,fi,eL,ft⟩:=hw
    exact⟨fj,fi,eL,fun id hid=>(ft id hid).imp (fun h=>h) (zR f4.next)⟩
   |error e=>rw[jA]at hw;exact hw
 ·subst yN
  have aa1:¬0<cu d.name:=by omega
  rw[zf sc.bf.i hd hj]at hR
  obtain⟨x,vE,wY⟩:=eR.d.at_ hd
  obtain⟨a,n,ha,hn,U8,UU⟩:=sc.dk j d hd
  have U5:rV (rs.map (·.1)) d=sg rs a n:=by
   unfold rV
   rw[ha,hn,oC]
   congr 1
   omega
  rw[U5]at hR
  have kB:=(sc.bf.i.ok.ds d (zP hd)).2.2.2
  have follow:∀vd h2,Fr h1 h2 (fun _=>False)->h2.obj vd=some (aN (ky (d,x)) 7 78)->si.n2 (fun id=>M id\/h.next<=id) (aJ Pg [] R) (aJ Pg [] R) (fun _ _ _=>False) (fun v h=>R (.cg v) h) (.ptr b 0) xz (I pl) (.ptr vo 0) (.ptr vd 0) h2:=fun vd h2 f2 ov=>by
   have cw:=f1.bX f2
   simp only[si.n2,ag,au,ov,ao,zG,ky,zA,zB,ab,eU,gt_iff_lt]
   by_cases k1:d.ops=0
   ·rw[zX k1]at hR
    have eK:¬0<d.ops:=by omega
    simp only[zK eK,si.n1,aj,zE,zD,zC,zH]
    have fin:=hR h2 ⟨xo,xp,rw.aU cw,fun _ h=>.inl h⟩ (SW.aO cw)
    simpa[aJ,l9,jo] using fin
   ·rw[zW k1]at hR
    have eK:0<d.ops:=by omega
    simp only[zL eK,si.n1,aj,zD,zF,zC,zI]
    refine di ov rfl fun _=>?_
    simp only[ag,au,ov,ao,zG,ky,zA,zB,ab,ha,hn]
    refine di (f2.bM oo) rfl fun _=>?_
    refine⟨SW b xo xp,fun id hs _=>.inl (hM id hs),?_⟩
    have call:=hB j n hj h2 (SW b xo xp) (fun ae h'=>match ae with |.ret v=>aJ Pg [] R [] h' |.cg v=>R (.cg v) h') a d x qs xz w pl xo xp l hd (rw.aU cw) (rt.aU cw) (by simpa using U8) (wY.aO f2 fun _ _ h=>h) (hq.aU cw) sep hlen (by rw[oC];exact UU) (fun _ h=>h) (fun h5 hw f5=>by
     have fin:=hR h5 ?_ (SW.trans (SW.aO cw) (fun _ h=>.inl h) f5)
     ·simpa[aJ,l9,jo] using fin
     ·cases jA:bT bk (rs.map (·.1)) j (d.params.zip qs) w pl (sg rs a n) l with
      |ok l'=>
       rw[jA]at hw
       obtain⟨fj,fi,eL,ft⟩:=hw
       exact⟨fj,fi,eL,fun id hid=>(ft id hid).imp (fun h=>h) (zR cw.next)⟩
      |error e=>rw[jA]at hw;exact hw)
    have ee:ky (d,x)=[Sb d.name,x,I a,I ((a:Int)+n),I d.depth,I d.ops,B !d.whole]:=by simp[ky,ha,hn]
    rw[ee]at call
    exact call
  simp only[zK aa1,si.n8,aj,zE,zD,zC,zH,si.n3]
  refine⟨fun _=>b,fun _ _=>by rw[eR.b];simp,?_⟩
  simp only[aD,ag,au,eR.b,ao,zG,zA,zB,ab,zH,zI]
  have lB:=eR
  have kn:∀{h3:AH}{M3:Nat->Prop}{R3:AE->AH->Prop},Fr h1 h3 (fun _=>False)->R3 (.ret (I j)) h3->aE Pg 53 [.ptr b 0,Sb d.name] h3 M3 R3:=fun f3 hr=>by
   have pW:=eR.aU f3
   have yL:=N_ sc.bf.i hd
   refine sH pW.b rfl pW.d Hq (fun hn=>by rw[yL]at hn;cases hn) fun i d' hi yO=>?_
   rw[yL]at yO;cases yO
   have:=Ir sc.bf.i.nd hd hi rfl
   subst this
   exact hr
  refine⟨?_,?_⟩
  ·refine⟨fun _=>False,fun _ h=>h.elim,kn Fr.refl ?_⟩
   exact fV eR.d.t.cF iY (uT wY.cF.one.1) vE rfl rfl (fun id hid=>.inr (zR f1.next hid)) fun vd h2 f2 _ ov=>follow vd h2 f2 ov
  ·have hv:=AH.cm h1 (aN ([Value.string ⟨#[]⟩,.slice none 0 0,.int .i64 0,.int .i64 0,.int .i64 0,.int .i64 0,.bool false].map AV.sc) 7 78)
   rw[aX]
   refine⟨rfl,?_⟩
   have f2:Fr h1 (h1.alloc (aN ([Value.string ⟨#[]⟩,.slice none 0 0,.int .i64 0,.int .i64 0,.int .i64 0,.int .i64 0,.bool false].map AV.sc) 7 78)) (fun _=>False):=Fr.refl.alloc _
   generalize h1.alloc (aN ([Value.string ⟨#[]⟩,.slice none 0 0,.int .i64 0,.int .i64 0,.int .i64 0,.int .i64 0,.bool false].map AV.sc) 7 78)=h2 at *
   refine⟨fun _=>False,fun _ h=>h.elim,kn f2 ?_⟩
   have lB:=eR.aU f2
   refine gO lB.d.t.cF iY vE fun _=>?_
   simp only[aF,hv,eY,bG]
   refine⟨⟨.inr f1.next,uT wY.cF.one.1,rfl,by simp⟩,?_⟩
   refine follow _ _ (f2.put (.inr (zU _))) ?_
   rw[cX hv]
   congr 1
end
end
section
open Go.Ab
attribute [-simp] aX aF
section
variable {n0:Nat} {h h' h1 h2:AH} {b:Nat} {xr:AV} {bk:Bk} {xq xb xd:AV} {yl:List (bY×AV)} {l:OL} {pl er:Int} {many:Bool} {xo xp:AV} {res:Except Int OL}
theorem WP.cases(a:WP n0 xr bk xq xb xd yl b h xo xp h' res):(∃l fj fi,res=.ok l/\RW n0 h' b xr bk xq xb xd yl l 0 0 false fj fi/\∀id,SW b fj fi id->SW b xo xp id\/h.next<=id)\/∃e l fj fi,res=.error e/\RW n0 h' b xr bk xq xb xd yl l e 115 true fj fi:=by
 cases res with
 |ok l=>obtain⟨fj,fi,h1,h2⟩:=a;exact .inl ⟨l,fj,fi,rfl,h1,h2⟩
 |error e=>obtain⟨l,fj,fi,h1⟩:=a;exact .inr ⟨e,l,fj,fi,rfl,h1⟩
theorem WP.obj(a:WP n0 xr bk xq xb xd yl b h xo xp h' res):∃l pl er many fj fi,RW n0 h' b xr bk xq xb xd yl l pl er many fj fi:=by
 rcases a.cases with⟨l,fj,fi,_,h1,_⟩ |⟨e,l,fj,fi,_,h1⟩
 ·exact⟨_,_,_,_,_,_,h1⟩
 ·exact⟨_,_,_,_,_,_,h1⟩
theorem RW.fresh(a:RW n0 h b xr bk xq xb xd yl l pl er many xo xp){v:Nat}(hv:h.next<=v):¬SW b xo xp v:=fun hs=>by
 obtain⟨_,o,ho,_⟩:=a.sw hs
 have:=h.lt _ _ ho
 omega
theorem WP.base{iG jc:AV}(a:WP n0 xr bk xq xb xd yl b h1 iG jc h' res)(hx:h.next<=h1.next)(hn:∀id,SW b iG jc id->SW b xo xp id\/h.next<=id):WP n0 xr bk xq xb xd yl b h xo xp h' res:=by
 cases res with
 |ok l=>obtain⟨fj,fi,h1,h2⟩:=a;exact⟨fj,fi,h1,fun id hid=>(h2 id hid).elim (hn id) fun h=>.inr (zR hx h)⟩
 |error e=>exact a
end
theorem uZ{f:OL->Except Int OL}{e:Int}:kJ f (.error e)=.error e:=rfl
theorem nX{f:OL->Except Int OL}{l:OL}:kJ f (.ok l)=f l:=rfl
section
variable {W:Nat->Prop} {QR QN:VK} {QE:Nat->VK} {QP:AV->AH->Prop} {h:AH} {n0 b vd vo vr:Nat} {xr xo xp xz tF x3:AV} {bk:Bk} {xq xb xd:AV} {yl:List (bY×AV)} {l:OL} {pl:Int} {rs:List (Row×AV)} {w:gJ} {y:Row×AV} {k j kk:Nat} {d:bY} {qs:List Int}
structure IK (W:Nat->Prop) (h:AH) (n0 b vd vo vr:Nat) (xr xo xp xz tF:AV) (bk:Bk) (xq xb xd:AV) (yl:List (bY×AV)) (l:OL) (rs:List (Row×AV)) (w:gJ) (y:Row×AV) (k:Nat) (d:bY) (qs:List Int):Prop where
 sc:SC bk rs
 rw:RW n0 h b xr bk xq xb xd yl l 0 0 false xo xp
 rt:RT h xr rs
 hd:bk.ds[k]?=some d
 od:h.obj vd=some (aN (ky (d,tF)) 7 78)
 oo:h.obj vo=some (aN (qV w) 7 49)
 bS:h.obj vr=some (aN (ay y) 6 42)
 nd:¬SW b xo xp vd
 no:¬SW b xo xp vo
 nr:¬SW b xo xp vr
 hp:bN hZ 1 9 h tF d.params
 hz:cH cq 1 3 h xz qs
 sep:Sep xp xz
 hl:qs.length=d.params.length
 hW:∀id,SW b xo xp id\/h.next<=id->W id
theorem Si(hB:Oz n0 b xr bk xq xb xd yl rs k kk)(i:IK W h n0 b vd vo vr xr xo xp xz tF bk xq xb xd yl l rs w y k d qs)(hj:j+1+kk<=rs.length)(wX:y.1.rows=kk)(hg:GB bk k d.params (sg rs (j+1) kk))(rN:y.1.num<=9223372036854775807)
  (hk:∀h',WP n0 xr bk xq xb xd yl b h xo xp h' (fP (bT bk (rs.map (·.1)) k (d.params.zip qs) w pl (sg rs (j+1) kk)) y.1.num.toNat l)->Fr h h' (SW b xo xp)->fp.n1 W QR QN QE QP (.ptr b 0) x3 xz (I pl) (.ptr vd 0) (.ptr vo 0) (I j) h') :
  fp.bc W QR QN QE QP (.ptr b 0) x3 xz (I pl) (.ptr vd 0) (.ptr vo 0) (I j) (.ptr vr 0) h:=by
 unfold fp.bc fp.a_
 have hlen:=i.rt.n
 generalize hT:fP (bT bk (rs.map (·.1)) k (d.params.zip qs) w pl (sg rs (j+1) kk)) y.1.num.toNat l=T at hk
 refine bU (ι:=Nat×Except Int OL) (fun q v h'=>v=[.ptr b 0,x3,xz,I pl,.ptr vd 0,.ptr vo 0,I j,.ptr vr 0,I (y.1.num.toNat-q.1:Nat)]/\q.1<=y.1.num.toNat/\WP n0 xr bk xq xb xd yl b h xo xp h' q.2/\kJ (fP (bT bk (rs.map (·.1)) k (d.params.zip qs) w pl (sg rs (j+1) kk)) q.1) q.2=T/\Fr h h' (SW b xo xp)) (fun q=>q.1) (y.1.num.toNat,.ok l) ⟨by simp,zU _,⟨xo,xp,i.rw,fun _ h=>.inl h⟩,hT,Fr.refl⟩ ?_
 rintro K ⟨c,res⟩ v h1 ⟨rfl,hc,hw,bq,f1⟩ step
 simp only at hc hw bq step
 have j7:=f1.obj i.bS i.nr
 have g1:=i.rw.tw f1
 simp only[fp.fY,zN,zO,fp.aQ,ag,au,j7,ao,zG,ay,zA,zB,ab,aZ]
 cases c with
 |zero=>
  have e1:decide (((y.1.num.toNat-0:Nat):Int)<y.1.num)=false:=by simp;omega
  have jA:res=T:=by
   rw[<-bq]
   cases res<;>rfl
  rw[jA]at hw
  simp only[e1,fp.n9,ck,zS,zE,zD,zC,zH,fp.n8,bu,if_false,fp.n7,aj,zV,zN,zO]
  exact hk h1 hw f1
 |succ c=>
  have e1:decide (((y.1.num.toNat-(c+1):Nat):Int)<y.1.num)=true:=by simp;omega
  have w1:∀x:Int,0<=x/\x<=1000000000->IntKind.i64.wrap x=x:=fun x hx=>aS (by omega) (by omega)
  have w3:IntKind.i64.wrap (((y.1.num.toNat-(c+1):Nat):Int)+1)=((y.1.num.toNat-c:Nat):Int):=by rw[aS (by omega) (by omega)];omega
  rcases hw.cases with⟨l1,iG,jc,rfl,eR,jS⟩ |⟨e,l1,iG,jc,rfl,eR⟩
  ·simp only[nX,fP]at bq
   have Ky:=i.rw.dH f1 i.hz i.sep
   have od1:=f1.obj i.od i.nd
   have Pr:=f1.obj i.oo i.no
   simp only[e1,fp.n9,ck,zS,zD,zF,zC,zI,aD,ag,au,eR.b,ao,zG,zA,zB,ab,dq,zT,fp.n8,bu,zV,fp.n7,aj,fp.n6,eR.fX.1,eR.fX.2,zH,fp.n5]
   refine di od1 rfl fun _=>?_
   simp only[aT,w1 ((j:Int)+1) (by omega),ag,au,j7,ao,zG,ay,zA,zB,ab,wX,w1 ((j:Int)+1+kk) (by omega)]
   refine di Pr rfl fun _=>?_
   refine⟨SW b iG jc,fun id hs _=>i.hW id (jS id hs),hB h1 _ _ (j+1) d tF qs xz w pl iG jc l1 i.hd eR (i.rt.HE g1) hj (i.hp.oO g1 rfl) Ky.1 (Ky.2 _ _ jS) i.hl hg (fun _ h=>h) fun h2 wU f2=>?_⟩
   have cw:Fr h h2 (SW b xo xp):=SW.trans f1 jS f2
   have rL:=WP.base (h:=h) (xo:=xo) (xp:=xp) wU f1.next jS
   obtain⟨l2,lC,Vr,Iu,lU,nJ,lB⟩:=wU.obj
   have oK:∀l',bT bk (rs.map (·.1)) k (d.params.zip qs) w pl (sg rs (j+1) kk) l1=.ok l'->l'.length=l2.length:=fun l' sP=>by
    rw[sP]at wU
    obtain⟨Jr,xp3,pW,_⟩:=wU
    have h1:=pW.fX.2 (fun v=>v=I l'.length)
    have h2:=lB.fX.2 (fun v=>v=I l'.length)
    have hb:=pW.b
    rw[lB.b]at hb
    have KC:lU=Jr:=by
     have:=congrArg (fun o:Option AO=>(o.map (·.cells)).bind (·[7]?)) hb
     simpa[EQ,aN] using this
    rw[<-KC]at h1
    rw[h1]at h2
    have h3:=h2.mp rfl
    have:(l2.length:Int)=l'.length:=by injection h3 with h4;injection h4
    omega
   simp only[fp.n4,aD,ag,au,lB.b,ao,zG,zA,zB,ab,lB.fX.1,lB.fX.2,zH,eG]
   by_cases k1:l2.length=l1.length
   ·have eK:((l2.length:Int)==(l1.length:Int))=true:=by rw[k1];simp
    simp only[eK,fp.n3,aj,zD,zF,zC,zI,zV,zN,zO]
    refine hk h2 ?_ cw
    cases hb:bT bk (rs.map (·.1)) k (d.params.zip qs) w pl (sg rs (j+1) kk) l1 with
    |ok l'=>
     rw[hb]at bq rL
     simp only at bq
     rw[zX (by rw[oK l' hb,k1])]at bq
     rw[<-bq];exact rL
    |error e=>
     rw[hb]at bq rL
     simp only at bq
     rw[<-bq];exact rL
   ·have eK:((l2.length:Int)==(l1.length:Int))=false:=by simp;omega
    simp only[eK,fp.n3,aj,zE,zD,zC,zH,fp.n2,aT,w3]
    refine step (c,bT bk (rs.map (·.1)) k (d.params.zip qs) w pl (sg rs (j+1) kk) l1) _ h2 (by simp only;omega) ⟨rfl,by simp only;omega,rL,?_,cw⟩
    cases hb:bT bk (rs.map (·.1)) k (d.params.zip qs) w pl (sg rs (j+1) kk) l1 with
    |ok l'=>
     rw[hb]at bq
     simp only at bq
     rw[zW (by rw[oK l' hb];exact k1)]at bq
     exact bq
    |error e=>
     rw[hb]at bq
     exact bq
  ·rw[uZ]at bq
   rw[bq]at hw
   simp only[e1,fp.n9,ck,zS,zD,zF,zC,zI,aD,ag,au,eR.b,ao,zG,zA,zB,ab,dq,fp.n8,bu,zV,fp.n7,aj,zE,zH,zN,zO]
   exact hk h1 hw f1
end
end
section
open Go.Ab
attribute [-simp] aX aF
theorem Hb{m:Nat}{h:AH}{K:AV->AH->Prop}(hm:m<=100000000)(hK:∀y h',bN cq 1 3 h' y []->cP (h.next<=·) y->Fr h h' (fun _=>False)->K y h'):zc (some (1,8,3,[.int .i64 0])) (I 0) (I m) h K:=by
 refine⟨⟨by omega,by omega,by omega,by omega,rfl,rfl⟩,?_⟩
 refine hK _ _ (.inr ⟨_,rfl,?_⟩) (fun id off n e=>?_) (Fr.refl.alloc _)
 ·exact AH.cm h _
 ·cases e;exact zU _
section
variable {W:Nat->Prop} {QR QN:VK} {QE:Nat->VK} {QP:AV->AH->Prop} {h:AH} {n0 b vd vo vr:Nat} {xr xo xp xz tF x3:AV} {bk:Bk} {xq xb xd:AV} {yl:List (bY×AV)} {l:OL} {pl:Int} {rs:List (Row×AV)} {w:gJ} {y:Row×AV} {k j kk:Nat} {d:bY} {qs:List Int}
theorem Sh(hA:D6 n0 b xr bk xq xb xd yl rs k)(i:IK W h n0 b vd vo vr xr xo xp xz tF bk xq xb xd yl l rs w y k d qs)(hy:rs[j]?=some y)(hu:u_ bk k y.1)(hm:∀a∈y.1.args,eV a.name d.params=true)
  (hk:∀h',WP n0 xr bk xq xb xd yl b h xo xp h' (iU bk (rs.map (·.1)) k y.1.name (y.1.args.map fun a=>mX (d.params.zip qs) a.name) w pl l)->Fr h h' (SW b xo xp)->fp.n1 W QR QN QE QP (.ptr b 0) x3 xz (I pl) (.ptr vd 0) (.ptr vo 0) (I j) h') :
  fp.b_ W QR QN QE QP (.ptr b 0) x3 xz (I pl) (.ptr vd 0) (.ptr vo 0) (I j) (.ptr vr 0) h:=by
 obtain⟨ha,hl⟩:=i.rt.a y (zP hy)
 have jJ:=(i.sc.bf.i.ok.ds d (zP i.hd)).1
 simp only[fp.b_,ag,au,i.bS,ao,zG,ay,zA,zB,ab,ha.len.1,ha.len.2,zH]
 refine Hb hl fun x5 h1 vF oJ f1=>?_
 unfold fp.bQ fp.bO
 refine bU (ι:=Nat×AV) (fun q v h'=>v=[.ptr b 0,x3,xz,I pl,.ptr vd 0,.ptr vo 0,I j,.ptr vr 0,q.2,I q.1]/\q.1<=y.1.args.length/\Fr h h' (fun _=>False)/\bN cq 1 3 h' q.2 ((y.1.args.take q.1).map fun a=>mX (d.params.zip qs) a.name)/\cP (h.next<=·) q.2) (fun q=>y.1.args.length-q.1) (0,x5) ⟨rfl,by omega,f1,by simpa using vF,oJ⟩ ?_
 rintro K ⟨q,x6⟩ v h2 ⟨rfl,hq,f2,hx,hs⟩ step
 simp only at hq hx hs step
 have ju:=f2.bM i.bS
 have ji:=ha.aU f2
 simp only[fp.kV,zN,zO,fp.bH,ag,au,ju,ao,zG,ay,zA,zB,ab,ji.len.1,ji.len.2,zH,aZ]
 by_cases aR:q<y.1.args.length
 ·have eh:(q:Int)<y.1.args.length:=by omega
  have g1:y.1.args[q]?=some y.1.args[q]:=zJ aR
  have hY:=List.getElem_mem aR
  have j8:y.1.args.take (q+1)=y.1.args.take q++[y.1.args[q]]:=by rw[List.take_add_one,g1];rfl
  generalize y.1.args[q]=a at *
  have w2:IntKind.i64.wrap ((q:Int)+1)=((q+1:Nat):Int):=by rw[aS (by omega) (by omega)];simp
  have Ps:=f2.bM i.od
  simp only[zL eh,fp.bz,aj,zD,zF,zC,zI,fp.bC,ag,au,Ps,ju,ao,zG,ky,ay,zA,zB,ab]
  refine dn (k:=0) ji Arg.bL g1 (by omega) rfl fun _=>?_
  refine⟨fun _=>False,fun _ h=>h.elim,EI (i.hp.aO f2 fun _ _ h=>h).cF jJ ?_⟩
  obtain⟨m,yL⟩:∃m,fQ a.name d.params 0=some m:=by
   have:=hm a hY
   unfold eV at this
   exact Option.isSome_iff_exists.1 this
  rw[yL]
  have hqm:=HO (n:=a.name) (ps:=d.params) (qs:=qs) (i:=0) (j:=m) (by simpa using yL) i.hl.symm
  refine gZ (i.hz.aU f2) (fun _=>rfl) hqm rfl fun _=>?_
  refine pB (f:=cq) (t:=mX (d.params.zip qs) a.name) eX (by omega) rfl (by omega) rfl rfl hx (fun id off n e=>i.hW id (.inr (hs id off n e))) (by rw[zZ,yA];omega) fun z h3 hz lF f3=>?_
  have dR:Fr h h3 fun _=>False:=f2.trans (f3.mono fun j ⟨off,n,e⟩=>.inr (hs j off n e))
  simp only[fp.bD,aT,w2]
  refine step (q+1,z) _ h3 (by simp only;omega) ⟨rfl,by simp only;omega,dR,?_,fun id off n e=>zR f2.next (lF id off n e)⟩
  rw[j8,List.map_append]
  exact hz
 ·have dA:¬(q:Int)<y.1.args.length:=by omega
  have e:q=y.1.args.length:=by omega
  rw[e,List.take_length]at hx
  have lB:=i.rw.aU f2
  simp only[zK dA,fp.bz,aj,zE,zD,zC,zH,zV,fp.bt,ag,au,ju,ao,zG,ay,zA,zB,ab,zN,zO]
  refine di (f2.bM i.oo) rfl fun _=>?_
  refine⟨SW b xo xp,fun id hs _=>i.hW id (.inl hs),hA h2 _ _ y.1.name _ x6 w pl xo xp l lB (i.rt.aU f2) hx.cF (tL i.rw.x hs) (fun q of n e=>by have h1:=hs _ _ _ e;have h2:=h.lt _ _ i.rw.b;have h3:=i.rw.n.1;omega) ?_ (fun _ h=>h) fun h3 hw f3=>?_⟩
  ·rcases hu with⟨u1,u2,_⟩ |⟨jj,d',u1,u2,u3,u4,u5⟩
   ·exact .inl ⟨u1,u2⟩
   ·exact .inr ⟨jj,d',u1,u2,u3,by simpa using u4,u5⟩
  ·exact hk h3 (hw.base f2.next fun id h=>.inl h) (SW.trans (SW.aO f2) (fun _ h=>.inl h) f3)
end
section
variable {n0 b:Nat} {xr:AV} {bk:Bk} {xq xb xd:AV} {yl:List (bY×AV)} {rs:List (Row×AV)} {k:Nat}
theorem RL(sc:SC bk rs)(hA:D6 n0 b xr bk xq xb xd yl rs k)(n:Nat):Oz n0 b xr bk xq xb xd yl rs k n:=by
 induction n using Nat.strongRecOn with
 |ind n ih=>
 intro h M R a d tF qs xz w pl xo xp l hd rw rt hn hp hz sep hl hg hM hR
 apply fp.aM
 unfold fp.cK
 refine dB (cs:=ky (d,tF)) (uT hp.cF.one.1) fun vd ha fa Uu od=>?_
 refine dB (cs:=qV w) rfl fun vo hb fb lG oo=>?_
 have vV:=fa.bX fb
 have XM:=fb.bM od
 have Pm:=rw.aU vV
 have nd:=rw.fresh Uu
 have no:=rw.fresh (v:=vo) (zR fa.next lG)
 unfold fp.cz fp.cy
 have hlen:=rt.n
 generalize hT:bT bk (rs.map (·.1)) k (d.params.zip qs) w pl (sg rs a n) l=T at hR
 refine bU (ι:=Nat×Except Int OL) (fun q v h'=>v=[.ptr b 0,I (a+n),xz,I pl,.ptr vd 0,.ptr vo 0,I (a+(n-q.1:Nat):Int)]/\q.1<=n/\WP n0 xr bk xq xb xd yl b hb xo xp h' q.2/\GB bk k d.params (sg rs (a+(n-q.1)) q.1)/\kJ (bT bk (rs.map (·.1)) k (d.params.zip qs) w pl (sg rs (a+(n-q.1)) q.1)) q.2=T/\Fr hb h' (SW b xo xp)) (fun q=>q.1) (n,.ok l) ⟨by simp,zU _,⟨xo,xp,Pm,fun _ h=>.inl h⟩,by simpa using hg,by simpa[nX] using hT,Fr.refl⟩ ?_
 rintro K ⟨m,res⟩ v h1 ⟨rfl,hm,hw,kC,bq,f1⟩ step
 simp only at hm hw kC bq step
 have g1:=Pm.tw f1
 have ic:=(rt.aU vV).HE g1
 have fin:WP n0 xr bk xq xb xd yl b hb xo xp h1 T->aJ Pg [] R [] h1:=fun iw=>by
  have:=hR h1 (iw.base vV.next fun _ h=>.inl h) (SW.trans (SW.aO vV) (fun _ h=>.inl h) f1)
  simpa[aJ,l9,jo] using this
 unfold fp.cB
 simp only[zN,zO,fp.bV,aZ]
 cases m with
 |zero=>
  have e1:decide ((a:Int)+(n-0:Nat)<a+n)=false:=by simp
  have jA:res=T:=by
   rw[<-bq,uA]
   cases res with
   |error e=>rfl
   |ok l=>rw[nX,xB]
  rw[jA]at hw
  simp only[e1,fp.cl,ck,zS,zE,zD,zC,zH,fp.cj,bu,if_false,fp.cn,aj,zV]
  exact fin hw
 |succ m=>
  obtain⟨j,hj⟩:∃j,j=a+(n-(m+1)):=⟨_,rfl⟩
  have ej:(a:Int)+(n-(m+1):Nat)=(j:Int):=by omega
  have e1:decide ((j:Int)<a+n)=true:=by simp;omega
  rw[<-hj]at bq kC
  obtain⟨y,hy⟩:∃y,rs[j]?=some y:=⟨rs[j]'(by omega),zJ _⟩
  rw[wu hy]at bq kC
  obtain⟨⟨b0,b1⟩,gd,gk⟩:=kC.inv
  have gu:=fun h=>kC.Mn h
  rw[pV (by omega)]at b1
  obtain⟨kk,ie⟩:∃kk:Nat,y.1.rows=kk:=⟨y.1.rows.toNat,by omega⟩
  have lj:kk<=m:=by omega
  rw[ie,zY,jp lj]at gk
  rw[ie,zY,jq]at gd
  have w1:∀x:Int,0<=x/\x<=1000000000->IntKind.i64.wrap x=x:=fun x hx=>aS (by omega) (by omega)
  rcases hw.cases with⟨l1,iG,jc,rfl,eR,jS⟩ |⟨e,l1,iG,jc,rfl,eR⟩
  ·rw[nX,uX,ie,zY,jp lj,jq]at bq
   simp only[e1,ej,fp.cl,ck,zS,zD,zF,zC,zI,aD,ag,au,eR.b,ao,zG,zA,zB,ab,dq,zT,fp.cj,bu,zV,fp.cn,aj,fp.cb]
   have Ht:∀id,SW b iG jc id\/h1.next<=id->(M id\/h.next<=id):=fun id hid=>by
    rcases hid with hid |hid
    ·rcases jS id hid with h' |h'
     ·exact .inl (hM id h')
     ·exact .inr (zR vV.next h')
    ·exact .inr (zR vV.next (zR f1.next hid))
   refine fV ic.r cO (ic.one hy) hy rfl rfl (fun id hid=>Ht id (.inr hid)) fun vr h3 f3 iz jM=>?_
   have pW:=eR.aU f3
   have Ky:=Pm.dH f1 (hz.aU vV) sep
   have Px:∀{v:Nat}{o:AO},hb.obj v=some o->¬SW b xo xp v->¬SW b iG jc v:=fun{v o} hv hns hs=>by
    rcases jS v hs with h' |h'
    ·exact hns h'
    ·have:=hb.lt _ _ hv;omega
   have ik:IK (fun id=>M id\/h.next<=id) h3 n0 b vd vo vr xr iG jc xz tF bk xq xb xd yl l1 rs w y k d qs:=
    ⟨sc,pW,ic.aU f3,hd,f3.bM (f1.obj XM nd),f3.bM (f1.obj oo no),jM,Px XM nd,Px oo no,eR.fresh iz,((hp.aO vV fun _ _ h=>h).oO g1 rfl).aO f3 fun _ _ h=>h,Ky.1.aU f3,Ky.2 _ _ jS,hl,
     fun id hid=>Ht id (hid.imp (fun h=>h) (zR f3.next))⟩
   have Bp:∀h' Cd,kJ (bT bk (rs.map (·.1)) k (d.params.zip qs) w pl (sg rs (j+1+kk) (m-kk))) Cd=T->WP n0 xr bk xq xb xd yl b h3 iG jc h' Cd->Fr h3 h' (SW b iG jc) ->
     fp.n1 (fun id=>M id\/h.next<=id) (aJ Pg [] R) K (fun(i:Nat) (vs:List AV) (h:AH)=>if i=0 then aJ Pg [] R vs h else False) (fun v h=>R (.cg v) h) (.ptr b 0) (I (a+n)) xz (I pl) (.ptr vd 0) (.ptr vo 0) (I j) h':=fun h' Cd sP iw f'=>by
    obtain⟨l2,lC,Vr,Iu,lU,nJ,lB⟩:=iw.obj
    have iT:Fr hb h' (SW b xo xp):=SW.trans f1 jS (SW.trans (SW.aO f3) (fun _ h=>.inl h) f')
    simp only[fp.n1,aD,ag,au,lB.b,ao,zG,zA,ab]
    refine dn (k:=4) ((rt.aU vV).HE (Pm.tw iT)).r cO hy (by omega) rfl fun _=>?_
    rw[ie]
    simp only[aT,w1 (1+(kk:Int)) (by omega),w1 ((j:Int)+(1+kk)) (by omega)]
    have e8:j+1+kk=a+(n-(m-kk)):=by omega
    have e9:(j:Int)+(1+kk)=a+(n-(m-kk):Nat):=by omega
    rw[e8]at sP gd
    exact step (m-kk,Cd) _ h' (by simp only;omega) ⟨by rw[<-e9],by simp only;omega,iw.base (zR f1.next f3.next) (fun id hid=>(jS id hid)),gd,sP,iT⟩
   have e4:(⟨#[117,115,101]⟩:ByteArray)=cQ:=rfl
   simp only[fp.bW,ag,au,jM,ao,zG,ay,zA,zB,ab,bB,e4]
   rcases gk with⟨k1,k2⟩ |⟨k1,k2⟩
   ·rw[zX k1]at bq
    have eK:¬y.1.kind=cQ:=by rw[k1];decide
    simp only[zK eK,fp.cp,aj,zE,zD,zC,zH]
    exact Si (ih kk (by omega)) ik (by omega) ie k2 (sc.nm y (zP hy)) fun h' iw f'=>Bp h' _ bq iw f'
   ·rw[zW k1]at bq
    obtain⟨eK,l0⟩:=gu k1
    simp only[zL eK,fp.cp,aj,zD,zF,zC,zI]
    exact Sh hA ik hy k2 l0 fun h' iw f'=>Bp h' _ bq iw f'
  ·rw[uZ]at bq
   rw[bq]at hw
   simp only[e1,ej,fp.cl,ck,zS,zD,zF,zC,zI,aD,ag,au,eR.b,ao,zG,zA,zB,ab,dq,fp.cj,bu,zV,fp.cn,aj,zE,zH]
   exact fin hw
theorem Le(sc:SC bk rs)(Hq:bk.ds.length<=100000000):D6 n0 b xr bk xq xb xd yl rs k:=by
 induction k using Nat.strongRecOn with
 |ind k ih=>exact NQ sc Hq fun j n hj=>RL sc (ih j hj) n
end
end
section
open Go.Ab
theorem QI:IntKind.u64.bits=64:=rfl
theorem Aq(a b:Nat)(ha:a<18446744073709551616)(hb:b<18446744073709551616):jW a b=((a &&& b:Nat):Int):=by
 unfold jW
 rw[QI]
 have e:∀x:Nat,BitVec.ofInt 64 (x:Int)=BitVec.ofNat 64 x:=fun x=>by simp
 rw[e,e,BitVec.toNat_and,BitVec.toNat_ofNat,BitVec.toNat_ofNat,Nat.mod_eq_of_lt (by simpa using ha),Nat.mod_eq_of_lt (by simpa using hb)]
 have aR:a &&& b<18446744073709551616:=Nat.lt_of_le_of_lt Nat.and_le_left ha
 have hw:=Ia ((a &&& b:Nat):Int)
 have e2:IntKind.u64.wrap ((a &&& b:Nat):Int)=((a &&& b:Nat):Int)%18446744073709551616:=by unfold IntKind.wrap;rfl
 rw[e2]
 omega
theorem Ck(a b:Nat)(ha:a<18446744073709551616)(hb:b<18446744073709551616):vp a b=((a |||b:Nat):Int):=by
 unfold vp
 rw[QI]
 have e:∀x:Nat,BitVec.ofInt 64 (x:Int)=BitVec.ofNat 64 x:=fun x=>by simp
 rw[e,e,BitVec.toNat_or,BitVec.toNat_ofNat,BitVec.toNat_ofNat,Nat.mod_eq_of_lt (by simpa using ha),Nat.mod_eq_of_lt (by simpa using hb)]
 have aR:a |||b<18446744073709551616:=Nat.or_lt_two_pow (n:=64) (by simpa using ha) (by simpa using hb)
 have e2:IntKind.u64.wrap ((a |||b:Nat):Int)=((a |||b:Nat):Int)%18446744073709551616:=by unfold IntKind.wrap;rfl
 rw[e2]
 omega
def mN(s f:Nat):Nat:=(2^s-1)*2^f
theorem A5{s f i:Nat}:(mN s f).testBit i=(decide (f<=i)&&decide (i<f+s)):=by
 unfold mN
 rw[Nat.testBit_mul_two_pow]
 by_cases h:f<=i
 ·rw[Nat.testBit_two_pow_sub_one]
  simp[h];omega
 ·simp[h]
theorem PC{s f:Nat}(h:s+f<=64):mN s f<18446744073709551616:=by
 unfold mN
 have h1:2^s*2^f<=2^64:=by rw[<-Nat.pow_add];exact Nat.pow_le_pow_right (by decide) h
 have h2:0<2^s:=Nat.two_pow_pos s
 have h3:0<2^f:=Nat.two_pow_pos f
 have h4:(2^s-1)*2^f+2^f=2^s*2^f:=by rw[<-Nat.succ_mul];congr 1;omega
 have h5:(2:Nat)^64=18446744073709551616:=by decide
 omega
theorem Ax{x:Int}(h0:0<=x)(h1:x<18446744073709551616):IntKind.u64.wrap x=x:=by
 have e2:IntKind.u64.wrap x=x%18446744073709551616:=by unfold IntKind.wrap;rfl
 rw[e2];omega
theorem CG(x:Int):IntKind.u64.wrap x=x%18446744073709551616:=by unfold IntKind.wrap;rfl
theorem rC(n:Nat):(2:Int)^n=((2^n:Nat):Int):=by simp
theorem It{g:fZ}{s f:Nat}(hs:g.size=s)(hf:g.from_=f)(h1:1<=s)(h:s+f<=64):gA g=(mN s f:Nat):=by
 unfold gA
 rw[hs,hf,zY,zY,Nat.min_eq_left (by omega),Nat.min_eq_left (by omega),Int.one_mul,rC,rC]
 have h2:0<2^s:=Nat.two_pow_pos s
 have h4:IntKind.u64.wrap (IntKind.u64.wrap ((2^s:Nat):Int)-1)=((2^s-1:Nat):Int):=by
  have h3:2^s<=2^64:=Nat.pow_le_pow_right (by decide) (by omega)
  have h5:(2:Nat)^64=18446744073709551616:=by decide
  rw[CG,CG]
  generalize 2^s=P at *
  omega
 rw[h4]
 have h6:=PC h
 unfold mN at h6 ⊢
 rw[show((2^s-1:Nat):Int)*((2^f:Nat):Int)=(((2^s-1)*2^f:Nat):Int) by simp]
 exact Ax (by omega) (by omega)
theorem Jy{g:fZ}{s f v:Nat}{n:Int}(hs:g.size=s)(hf:g.from_=f)(hn:n=v)(hv:v<2^s)(h:s+f<=64):valOf g n=((v*2^f:Nat):Int)/\v*2^f<18446744073709551616:=by
 unfold valOf
 have h1:v*2^f<2^s*2^f:=Nat.mul_lt_mul_of_pos_right hv (Nat.two_pow_pos f)
 have h2:2^s*2^f<=2^64:=by rw[<-Nat.pow_add];exact Nat.pow_le_pow_right (by decide) h
 have h5:(2:Nat)^64=18446744073709551616:=by decide
 have h6:v<=v*2^f:=Nat.le_mul_of_pos_right _ (Nat.two_pow_pos f)
 rw[hf,hn,zY,Nat.min_eq_left (by omega),rC,Ax (x:=(v:Int)) (by omega) (by omega)]
 rw[show((v:Nat):Int)*((2^f:Nat):Int)=((v*2^f:Nat):Int) by simp]
 exact⟨Ax (by omega) (by omega),by omega⟩
theorem S3{s f v:Nat}(hv:v<2^s):v*2^f &&& mN s f=v*2^f:=by
 apply Nat.eq_of_testBit_eq
 intro i
 rw[Nat.testBit_and,A5,Nat.testBit_mul_two_pow]
 by_cases h:f<=i
 ·by_cases h2:i<f+s
  ·simp[h,h2]
  ·have:v.testBit (i-f)=false:=Nat.testBit_lt_two_pow (Nat.lt_of_lt_of_le hv (Nat.pow_le_pow_right (by decide) (by omega)))
   simp[h,h2,this]
 ·simp[h]
theorem MW{s f s' f':Nat}(h:f+s<=f'\/f'+s'<=f):mN s f &&& mN s' f'=0:=by
 apply Nat.eq_of_testBit_eq
 intro i
 rw[Nat.testBit_and,A5,A5,Nat.zero_testBit]
 by_cases h1:f<=i<;>by_cases h2:i<f+s<;>by_cases h3:f'<=i<;>by_cases h4:i<f'+s'<;>simp[h1,h2,h3,h4]<;>omega
theorem TZ{s f:Nat}(h:1<=s):mN s f≠0:=fun e=>by
 have:=A5 (s:=s) (f:=f) (i:=f)
 rw[e,Nat.zero_testBit]at this
 simp at this
 omega
theorem Ol{M V m v:Nat}(h1:V &&& M=V)(h2:v &&& m=v)(h3:M &&& m=0\/M &&& m=m):(V &&& m=v &&& M)↔(M &&& m=0\/V &&& m=v):=by
 have e1:V &&& m=V &&& (M &&& m):=by rw[<-Nat.and_assoc,h1]
 have e2:v &&& M=v &&& (M &&& m):=by rw[Nat.and_comm M m,<-Nat.and_assoc,h2]
 rcases h3 with h3 |h3
 ·rw[e1,e2,h3];simp
 ·rw[e2,h3,h2]
  constructor
  ·exact .inr
  ·rintro(h |h)
   ·subst h
    simp at h2 ⊢
    exact h2
   ·exact h
end
section
open Go.Ab
def xJ(bk:Bk):Prop:=bk.bs.Pairwise fun r r'=>r.from_+r.size<=r'.from_
theorem Tg{bk bR:Bk}{own:Option Nat}{i:Int}{r:Row}(a:kF bk)(p:xJ bk)(h:fC bk own i r=.ok bR):xJ bR:=by
 have same:∀e,kY e bk=.ok bR->xJ bR:=fun e h=>by
  unfold kY at h
  split at h<;>cases h
  exact p
 unfold fC at h
 split at h
 ·cases hd:fA bk bk.qs 64 r with
  |error e=>rw[hd]at h;cases h
  |ok l=>rw[hd]at h;cases h;exact p
 split at h
 ·cases hd:fA bk bk.bs 64 r with
  |error e=>rw[hd]at h;cases h
  |ok l=>
   rw[hd]at h;cases h
   unfold fA at hd
   split at hd
   ·cases hd
   split at hd
   ·cases hd
   split at hd
   ·cases hd
   cases hd
   unfold xJ
   simp only
   rw[List.pairwise_append]
   refine⟨p,List.pairwise_singleton _ _,fun x hx y hy=>?_⟩
   have:=List.mem_singleton.1 hy
   subst this
   exact(a.ok.sb x hx).2.2
 split at h
 ·unfold pz at h
  split at h
  ·cases h
  split at h
  ·cases h
  split at h
  ·cases h
  split at h
  ·cases h
  cases h
  exact p
 split at h
 ·split at h
  ·cases h
  ·cases h;exact p
 split at h
 ·unfold tU at h
  split at h
  ·cases h
  ·split at h
   ·cases h
   ·cases h;exact p
 split at h
 ·unfold ka at h
  split at h
  ·cases h
  split at h
  ·cases h
  split at h
  ·cases h
  split at h
  ·cases h
  split at h
  ·cases h
  split at h
  ·cases h
  cases h
  unfold jV
  cases own<;>exact p
 split at h
 ·unfold kj at h
  split at h
  ·split at h
   ·cases h
   ·exact same _ h
  ·cases h
 split at h
 ·unfold mi at h
  split at h
  ·exact same _ h
  ·cases h
 cases h
 exact p
theorem RD(n:Nat):∀{deep:Nat}{own:Option Nat}{i:Nat}{rows:List Row}{bk bR:Bk}(_:rows.length=n)(_:∀r∈rows,r.args.length<=100000000)(_:kF bk)(_:xJ bk)(_:eN deep own i rows bk=.ok bR),xJ bR:=by
 induction n using Nat.strongRecOn with
 |ind n ih=>
 intro deep own i rows bk bR hn hl a p h
 cases rows with
 |nil=>rw[jf]at h;cases h;exact p
 |cons r rest=>
  rw[jG]at h
  split at h
  ·cases h
  split at h
  ·cases h
  rename_i lm h1
  split at h
  ·cases h
  rename_i eT h2
  rw[List.length_cons]at hn
  have p1:=Tg a p h1
  obtain⟨a1,_⟩:=nM a (hl r (List.mem_cons_self ..)) h1
  have Fp:∀r'∈rest.take r.rows.toNat,r'.args.length<=100000000:=fun r' hr=>hl r' (List.mem_cons_of_mem _ (List.mem_of_mem_take hr))
  have oK:∀r'∈rest.drop r.rows.toNat,r'.args.length<=100000000:=fun r' hr=>hl r' (List.mem_cons_of_mem _ (List.mem_of_mem_drop hr))
  have p2:=ih _ (by rw[yA];omega) rfl Fp a1 p1 h2
  obtain⟨a2,_,s2⟩:=po _ rfl Fp a1 h2
  by_cases k:r.kind=bJ
  ·rw[zX k]at h
   exact ih _ (by rw[List.length_drop];omega) rfl oK (td a2 s2).1 p2 h
  ·rw[zW k]at h
   exact ih _ (by rw[List.length_drop];omega) rfl oK a2 p2 h
structure WI (bk:Bk) (w:gJ) (M V:Nat):Prop where
 m:w.cN=M
 v:w.value=V
 hm:M<18446744073709551616
 hv:V<18446744073709551616
 i:V &&& M=V
 b:w.is=(w.cN != 0)
 r:∀g∈bk.bs,∀s f:Nat,g.size=s->g.from_=f->M &&& mN s f=0\/M &&& mN s f=mN s f
theorem abW{bk:Bk}:WI bk ⟨false,0,0⟩ 0 0:=⟨rfl,rfl,by decide,by decide,rfl,rfl,fun g _ s f _ _=>.inl (Nat.zero_and _)⟩
theorem Rf{bk:Bk}(p:xJ bk){g g':fZ}(h:g∈bk.bs)(h':g'∈bk.bs):g=g'\/g.from_+g.size<=g'.from_\/g'.from_+g'.size<=g.from_:=by
 obtain⟨i,hi⟩:=List.mem_iff_getElem?.1 h
 obtain⟨j,hj⟩:=List.mem_iff_getElem?.1 h'
 obtain⟨i1,i2⟩:=zM.1 hi
 obtain⟨j1,j2⟩:=zM.1 hj
 have hp:=List.pairwise_iff_getElem.1 p
 rcases Nat.lt_trichotomy i j with aR |he |aR
 ·right;left
  have:=hp i j i1 j1 aR
  rw[i2,j2]at this;exact this
 ·subst he
  left;rw[<-i2,<-j2]
 ·right;right
  have:=hp j i j1 i1 aR
  rw[i2,j2]at this;exact this
theorem Xh{bk:Bk}{w:gJ}{M V:Nat}(a:WI bk w M V)(ok:xK bk)(p:xJ bk){g:fZ}(hg:g∈bk.bs){n:Int}(h0:0<=n)(h1:g.size<63->n<2^g.size.toNat)(h2:n<=9223372036854775807) :
  ((jW w.value (gA g)≠jW (valOf g n) w.cN)↔¬(jW w.cN (gA g)=0\/jW w.value (gA g)=valOf g n))/\∃M' V',WI bk ⟨true,vp w.cN (gA g),vp w.value (valOf g n)⟩ M' V':=by
 have hs:=ok.sb g hg
 have ht:=ok.tb
 obtain⟨s,es⟩:∃s:Nat,g.size=s:=⟨g.size.toNat,by omega⟩
 obtain⟨f,ef⟩:∃f:Nat,g.from_=f:=⟨g.from_.toNat,by omega⟩
 obtain⟨v,ev⟩:∃v:Nat,n=v:=⟨n.toNat,by omega⟩
 have Ux:s+f<=64:=by omega
 have hv:v<2^s:=by
  by_cases h:s<63
  ·have:=h1 (by omega)
   rw[es,zY,rC]at this
   omega
  ·have h3:2^63<=2^s:=Nat.pow_le_pow_right (by decide) (by omega)
   have h5:(2:Nat)^63=9223372036854775808:=by decide
   omega
 have em:=It es ef (by omega) Ux
 obtain⟨YA,Ut⟩:=Jy es ef ev hv Ux
 have KJ:=PC Ux
 have X0:=S3 (f:=f) hv
 have hr:=a.r g hg s f es ef
 generalize kT:mN s f=m at *
 generalize v*2^f=vv at *
 refine⟨?_,M |||m,V |||vv,⟨?_,?_,?_,?_,?_,?_,?_⟩⟩
 ·rw[em,YA,a.m,a.v,Aq _ _ a.hv KJ,Aq _ _ Ut a.hm,Aq _ _ a.hm KJ]
  have key:=Ol a.i X0 hr
  rw[ne_eq,not_congr]
  have c1:(((V &&& m:Nat):Int)=((vv &&& M:Nat):Int))↔V &&& m=vv &&& M:=by omega
  have c2:(((M &&& m:Nat):Int)=0)↔M &&& m=0:=by omega
  have c3:(((V &&& m:Nat):Int)=(vv:Int))↔V &&& m=vv:=by omega
  rw[c1,c2,c3]
  exact key
 ·simp only;rw[a.m,em,Ck _ _ a.hm KJ]
 ·simp only;rw[a.v,YA,Ck _ _ a.hv Ut]
 ·exact Nat.or_lt_two_pow (n:=64) (by simpa using a.hm) (by simpa using KJ)
 ·exact Nat.or_lt_two_pow (n:=64) (by simpa using a.hv) (by simpa using Ut)
 ·apply Nat.eq_of_testBit_eq
  intro i
  have b1:=congrArg (fun x=>x.testBit i) a.i
  have b2:=congrArg (fun x=>x.testBit i) X0
  simp only[Nat.testBit_and]at b1 b2
  simp only[Nat.testBit_and,Nat.testBit_or]
  revert b1 b2
  cases V.testBit i<;>cases M.testBit i<;>cases vv.testBit i<;>cases m.testBit i<;>simp
 ·simp only
  rw[a.m,em,Ck _ _ a.hm KJ]
  have hp:=TZ (s:=s) (f:=f) (by omega)
  rw[kT]at hp
  have:M |||m≠0:=fun e=>hp (by
   apply Nat.eq_of_testBit_eq
   intro i
   have:=congrArg (fun x=>x.testBit i) e
   simp only[Nat.testBit_or,Nat.zero_testBit,Bool.or_eq_false_iff]at this
   rw[this.2,Nat.zero_testBit])
  have h3:¬(((M |||m:Nat):Int)=0):=by omega
  simpa using h3
 ·intro g' Br s' f' es' ef'
  have hold:=a.r g' Br s' f' es' ef'
  rcases Rf p hg Br with rfl |Qq
  ·right
   have e1:s'=s:=by omega
   have e2:f'=f:=by omega
   subst e1;subst e2
   rw[kT]
   apply Nat.eq_of_testBit_eq
   intro i
   simp only[Nat.testBit_and,Nat.testBit_or]
   cases M.testBit i<;>cases m.testBit i<;>simp
  ·have hz:=MW (s:=s) (f:=f) (s':=s') (f':=f') (by omega)
   rw[kT]at hz
   have e:(M |||m) &&& mN s' f'=M &&& mN s' f':=by
    apply Nat.eq_of_testBit_eq
    intro i
    have XV:=congrArg (fun x=>x.testBit i) hz
    simp only[Nat.testBit_and,Nat.zero_testBit]at XV
    simp only[Nat.testBit_and,Nat.testBit_or]
    revert XV
    cases M.testBit i<;>cases m.testBit i<;>cases (mN s' f').testBit i<;>simp
   rw[e]
   exact hold
end
section
open Go.Ab
attribute [-simp] aX aF
def V6(n0 b:Nat)(xr:AV)(bk:Bk)(xq xb xd:AV)(yl:List (bY×AV))(rs:List (Row×AV))(n:Nat):Prop:=
 ∀(h:AH)(M:Nat->Prop)(R:AE->AH->Prop)(a:Nat)(w:gJ)(M0 V0:Nat)(xo xp:AV)(l:OL),WI bk w M0 V0->RW n0 h b xr bk xq xb xd yl l 0 0 false xo xp->RT h xr rs->a+n<=rs.length->GO bk (sg rs a n)->(∀id,SW b xo xp id->M id) ->
  (∀h',WP n0 xr bk xq xb xd yl b h xo xp h' (gU bk (rs.map (·.1)) w (sg rs a n) l)->Fr h h' (SW b xo xp)->R (.ret (.dY [])) h') ->
  aE Pg 17 [.ptr b 0,I a,I (a+n),U w.cN,U w.value] h M R
section
variable {W:Nat->Prop} {QR QN:VK} {QE:Nat->VK} {QP:AV->AH->Prop} {h h0:AH} {n0 b vo vr:Nat} {xr xo xp x2:AV} {bk:Bk} {xq xb xd:AV} {yl:List (bY×AV)} {l:OL} {rs:List (Row×AV)} {w:gJ} {M0 V0:Nat} {y:Row×AV} {j kk:Nat} {one:Except Int OL}
structure KW (W:Nat->Prop) (QR QN:VK) (QE:Nat->VK) (QP:AV->AH->Prop) (h0:AH) (n0 b:Nat) (xr xo xp x2:AV) (bk:Bk) (xq xb xd:AV) (yl:List (bY×AV)) (l:OL) (rs:List (Row×AV)) (w:gJ) (M0 V0:Nat) (y:Row×AV) (j:Nat) (one:Except Int OL):Prop where
 sc:SC bk rs
 bp:xJ bk
 dl:bk.ds.length<=100000000
 wi:WI bk w M0 V0
 rw:RW n0 h0 b xr bk xq xb xd yl l 0 0 false xo xp
 rt:RT h0 xr rs
 hy:rs[j]?=some y
 hW:∀id,SW b xo xp id\/h0.next<=id->W id
 hk:∀h',WP n0 xr bk xq xb xd yl b h0 xo xp h' one->Fr h0 h' (SW b xo xp)->dh.n1 W QR QN QE QP (.ptr b 0) x2 (U w.cN) (U w.value) (I j) h'
theorem KW.num(k:KW W QR QN QE QP h0 n0 b xr xo xp x2 bk xq xb xd yl l rs w M0 V0 y j one)(f:Fr h0 h fun _=>False){M:Nat->Prop}{R:AE->AH->Prop}{x0:AV}{a:Arg}(nu:gB bk.qs a=0)(hR:∀h',Fr h h' (fun _=>False)->R (.ret (I (fE bk.qs a))) h'):aE Pg 32 [x0,.agg a.enc,xq] h M R:=
 AY (k.rw.aU f).q.cF (by have:=lens k.sc.bf.i.ok;omega) k.sc.bf.i.ok.sq k.sc.bf.i.ok.tq.2 nu hR
theorem KW.ZE(k:KW W QR QN QE QP h0 n0 b xr xo xp x2 bk xq xb xd yl l rs w M0 V0 y j one)(f:Fr h0 h fun _=>False){M:Nat->Prop}{R:AE->AH->Prop}{x0:AV}{a:Arg}(nu:gB bk.bs a=0)(hR:∀h',Fr h h' (fun _=>False)->R (.ret (I (fE bk.bs a))) h'):aE Pg 32 [x0,.agg a.enc,xb] h M R:=
 AY (k.rw.aU f).s.cF (by have:=lens k.sc.bf.i.ok;omega) k.sc.bf.i.ok.sb k.sc.bf.i.ok.tb.2 nu hR
theorem SH(k:KW W QR QN QE QP h0 n0 b xr xo xp x2 bk xq xb xd yl l rs w M0 V0 y j (iU bk (rs.map (·.1)) bk.ds.length y.1.name (y.1.args.map (fE bk.qs)) w y.1.place l))(f:Fr h0 h fun _=>False)(oo:h.obj vo=some (aN (qV w) 7 49))(bS:h.obj vr=some (aN (ay y) 6 42))(hu:u_ bk bk.ds.length y.1)(nu:∀a∈y.1.args,gB bk.qs a=0) :
  dh.n9 W QR QN QE QP (.ptr b 0) x2 (U w.cN) (U w.value) (I j) (.ptr vr 0) (.ptr vo 0) h:=by
 have rt:=k.rt.aU f
 obtain⟨ha,hl⟩:=rt.a y (zP k.hy)
 simp only[dh.n9,ag,au,bS,ao,zG,ay,zA,zB,ab,ha.len.1,ha.len.2,zH]
 refine Hb hl fun x5 h1 vF oJ f1=>?_
 unfold dh.n8 dh.n7
 refine bU (ι:=Nat×AV) (fun q v h'=>v=[.ptr b 0,x2,U w.cN,U w.value,I j,.ptr vr 0,.ptr vo 0,q.2,I q.1]/\q.1<=y.1.args.length/\Fr h h' (fun _=>False)/\bN cq 1 3 h' q.2 ((y.1.args.take q.1).map (fE bk.qs))/\cP (h.next<=·) q.2) (fun q=>y.1.args.length-q.1) (0,x5) ⟨rfl,by omega,f1,by simpa using vF,oJ⟩ ?_
 rintro K ⟨q,x6⟩ v h2 ⟨rfl,hq,f2,hx,hs⟩ step
 simp only at hq hx hs step
 have ju:=f2.bM bS
 have ji:=ha.aU f2
 have cw:=f.bX f2
 have lB:=k.rw.aU cw
 simp only[dh.fY,zN,zO,dh.n6,ag,au,ju,ao,zG,ay,zA,zB,ab,ji.len.1,ji.len.2,zH,aZ]
 by_cases aR:q<y.1.args.length
 ·have eh:(q:Int)<y.1.args.length:=by omega
  have g1:y.1.args[q]?=some y.1.args[q]:=zJ aR
  have hY:=List.getElem_mem aR
  have j8:y.1.args.take (q+1)=y.1.args.take q++[y.1.args[q]]:=by rw[List.take_add_one,g1];rfl
  generalize y.1.args[q]=a at *
  have w2:IntKind.i64.wrap ((q:Int)+1)=((q+1:Nat):Int):=by rw[aS (by omega) (by omega)];simp
  simp only[zL eh,dh.n5,aj,zD,zF,zC,zI,dh.n4,ag,au,ju,ao,zG,ay,zA,zB,ab]
  refine gO ji Arg.bL g1 fun _=>?_
  simp only[aD,ag,au,lB.b,ao,zG,zA,zB,ab]
  refine⟨fun _=>False,fun _ h=>h.elim,k.num cw (nu a hY) fun h3 f3=>?_⟩
  refine pB (f:=cq) (t:=fE bk.qs a) eX (by omega) rfl (by omega) rfl rfl (hx.aO f3 fun _ _ h=>h) (fun id off n e=>k.hW id (.inr (zR f.next (hs id off n e)))) (by rw[zZ,yA];omega) fun z h4 hz lF f4=>?_
  have f24:Fr h h4 fun _=>False:=(f2.bX f3).trans (f4.mono fun j ⟨off,n,e⟩=>.inr (hs j off n e))
  simp only[dh.n3,aT,w2]
  refine step (q+1,z) _ h4 (by simp only;omega) ⟨rfl,by simp only;omega,f24,?_,fun id off n e=>zR (f2.bX f3).next (lF id off n e)⟩
  rw[j8,List.map_append]
  exact hz
 ·have dA:¬(q:Int)<y.1.args.length:=by omega
  have e:q=y.1.args.length:=by omega
  rw[e,List.take_length]at hx
  simp only[zK dA,dh.n5,aj,zE,zD,zC,zH,zV,dh.n2,ag,au,ju,ao,zG,ay,zA,zB,ab,zN,zO]
  refine di (f2.bM oo) rfl fun _=>?_
  refine⟨SW b xo xp,fun id hs _=>k.hW id (.inl hs),Le (k:=bk.ds.length) k.sc k.dl h2 _ _ y.1.name _ x6 w y.1.place xo xp l lB (k.rt.aU cw) hx.cF (tL (k.rw.aU f).x hs) (fun q of n e=>by have h1:=hs _ _ _ e;have h2:=h.lt _ _ (k.rw.aU f).b;have h3:=k.rw.n.1;omega) ?_ (fun _ h=>h) fun h3 hw f3=>?_⟩
  ·rcases hu with⟨u1,u2,_⟩ |⟨jj,d',u1,u2,u3,u4,u5⟩
   ·exact .inl ⟨u1,u2⟩
   ·exact .inr ⟨jj,d',u1,u2,u3,by simpa using u4,u5⟩
  ·exact k.hk h3 (hw.base cw.next fun id h=>.inl h) (SW.trans (SW.aO cw) (fun _ h=>.inl h) f3)
theorem H8{o:dS}{xf:AV}(k:KW W QR QN QE QP h0 n0 b xr xo xp x2 bk xq xb xd yl l rs w M0 V0 y j (jz l o y.1.place))(f:Fr h0 h fun _=>False)(hq:cH cq 1 3 h xf o.aI)(sep:Sep xp xf)(Bn:cP (n0<=·) xf){K:AV->AH->Prop}
  (hK:K=fun _ ua=>dh.n1 W QR QN QE QP (.ptr b 0) x2 (U w.cN) (U w.value) (I j) ua):aC Pg W 34 [.ptr b 0,.agg (cf (o,xf)),I y.1.place] h K QP:=by
 subst hK
 exact⟨SW b xo xp,fun id hs _=>k.hW id (.inl hs),G7 (k.rw.aU f) hq sep Bn (fun _ h=>h) fun h3 hw f3=>k.hk h3 (hw.base f.next fun id h=>.inl h) (SW.trans (SW.aO f) (fun _ h=>.inl h) f3)⟩
theorem L6{a:Arg}(oL:y.1.args=[a])(k:KW W QR QN QE QP h0 n0 b xr xo xp x2 bk xq xb xd yl l rs w M0 V0 y j (jz l (jN 3 ByteArray.empty [fE bk.qs a] 0 w) y.1.place))(f:Fr h0 h fun _=>False)(lG:h0.next<=vo)(oo:h.obj vo=some (aN (qV w) 7 49))(bS:h.obj vr=some (aN (ay y) 6 42))(AW:vr≠vo)(nu:gB bk.qs a=0) :
  dh.bz W QR QN QE QP (.ptr b 0) x2 (U w.cN) (U w.value) (I j) (.ptr vr 0) (.ptr vo 0) h:=by
 have wo:W vo:=k.hW vo (.inr lG)
 simp only[dh.bz,ag,aF,oo,dC,bG,zG]
 refine⟨⟨wo,rfl,rfl,by simp[cf]⟩,?_⟩
 have f1:Fr h0 (h.put vo 0 [I 3]) fun _=>False:=f.put (.inr lG)
 have g1:Fr h (h.put vo 0 [I 3]) (·=vo):=Fr.refl.put (.inl rfl)
 have o1:=cX (off:=0) (cs:=[I 3]) oo
 generalize h.put vo 0 [I 3]=h1 at *
 have j7:=g1.obj bS AW
 obtain⟨ha,hl⟩:=(k.rt.aU f1).a y (zP k.hy)
 rw[oL]at ha
 simp only[dh.bC,ag,au,j7,ao,zG,ay,zA,zB,ab]
 refine gO (i:=0) ha Arg.bL rfl fun _=>?_
 simp only[aD,ag,au,(k.rw.aU f1).b,ao,zG,zA,zB,ab]
 refine⟨fun _=>False,fun _ h=>h.elim,k.num f1 nu fun h2 f2=>?_⟩
 refine pA (cells:=[I (fE bk.qs a)]) ⟨rfl,rfl⟩ fun id h3 f3 hid vq=>?_
 have dR:=f1.bX (f2.bX f3)
 have o3:=f3.bM (f2.bM o1)
 simp only[ag,aF,o3,show cM (.sl id 0 1)=some [.sl id 0 1] from rfl,bG,zG]
 refine⟨⟨wo,rfl,rfl,by simp[cf,putCells]⟩,?_⟩
 have f4:Fr h0 (h3.put vo 2 [.sl id 0 1]) fun _=>False:=dR.put (.inr lG)
 have g4:Fr h3 (h3.put vo 2 [.sl id 0 1]) (·=vo):=Fr.refl.put (.inl rfl)
 have o4:=cX (off:=2) (cs:=[.sl id 0 1]) o3
 generalize h3.put vo 2 [.sl id 0 1]=h4 at *
 have Ip:=g4.obj vq (ci vq o3 (show(3:Nat)≠49 by decide))
 have sC:=g4.obj (f3.bM (f2.bM j7)) AW
 simp only[dh.bD]
 refine di o4 rfl fun _=>?_
 simp only[ag,au,sC,ao,zG,ay,zA,zB,ab]
 refine H8 (o:=jN 3 ByteArray.empty [fE bk.qs a] 0 w) (xf:=.sl id 0 1) k f4 (.inr (.inr ⟨id,[],false,3,rfl,fun _=>rfl,by rw[Ip];rfl⟩)) ?_ ?_ rfl
 ·refine tL k.rw.x fun i off n e=>?_
  cases e
  exact zR (f1.bX f2).next hid
 ·intro i off n e
  cases e
  have h1:=zR (f1.bX f2).next hid
  have h2:=h0.lt _ _ k.rw.b
  have h3:=k.rw.n.1
  omega
end
end
section
open Go.Ab
attribute [-simp] aX aF
section
variable {W:Nat->Prop} {QR QN:VK} {QE:Nat->VK} {QP:AV->AH->Prop} {h h0:AH} {n0 b vo vr:Nat} {xr xo xp x2:AV} {bk:Bk} {xq xb xd:AV} {yl:List (bY×AV)} {l:OL} {rs:List (Row×AV)} {w:gJ} {M0 V0:Nat} {y:Row×AV} {j kk:Nat} {one:Except Int OL}
theorem O6{a c:Arg}(oL:y.1.args=[a,c])(k:KW W QR QN QE QP h0 n0 b xr xo xp x2 bk xq xb xd yl l rs w M0 V0 y j (jz l (jN 2 ByteArray.empty [fE bk.qs a] (fE bk.bs c) w) y.1.place))(f:Fr h0 h fun _=>False)(lG:h0.next<=vo)(oo:h.obj vo=some (aN (qV w) 7 49))(bS:h.obj vr=some (aN (ay y) 6 42))(AW:vr≠vo)(nu:gB bk.qs a=0)(aa0:gB bk.bs c=0) :
  dh.bt W QR QN QE QP (.ptr b 0) x2 (U w.cN) (U w.value) (I j) (.ptr vr 0) (.ptr vo 0) h:=by
 have wo:W vo:=k.hW vo (.inr lG)
 simp only[dh.bt,ag,aF,oo,dC,bG,zG]
 refine⟨⟨wo,rfl,rfl,by simp[cf]⟩,?_⟩
 have f1:Fr h0 (h.put vo 0 [I 2]) fun _=>False:=f.put (.inr lG)
 have g1:Fr h (h.put vo 0 [I 2]) (·=vo):=Fr.refl.put (.inl rfl)
 have o1:=cX (off:=0) (cs:=[I 2]) oo
 generalize h.put vo 0 [I 2]=h1 at *
 have j7:=g1.obj bS AW
 obtain⟨ha,hl⟩:=(k.rt.aU f1).a y (zP k.hy)
 rw[oL]at ha
 simp only[dh.bc,ag,au,j7,ao,zG,ay,zA,zB,ab]
 refine gO (i:=0) ha Arg.bL rfl fun _=>?_
 simp only[aD,ag,au,(k.rw.aU f1).b,ao,zG,zA,zB,ab]
 refine⟨fun _=>False,fun _ h=>h.elim,k.num f1 nu fun h2 f2=>?_⟩
 refine pA (cells:=[I (fE bk.qs a)]) ⟨rfl,rfl⟩ fun id h3 f3 hid vq=>?_
 have dR:=f1.bX (f2.bX f3)
 have o3:=f3.bM (f2.bM o1)
 simp only[ag,aF,o3,show cM (.sl id 0 1)=some [.sl id 0 1] from rfl,bG,zG]
 refine⟨⟨wo,rfl,rfl,by simp[cf,putCells]⟩,?_⟩
 have f4:Fr h0 (h3.put vo 2 [.sl id 0 1]) fun _=>False:=dR.put (.inr lG)
 have g4:Fr h3 (h3.put vo 2 [.sl id 0 1]) (·=vo):=Fr.refl.put (.inl rfl)
 have o4:=cX (off:=2) (cs:=[.sl id 0 1]) o3
 generalize h3.put vo 2 [.sl id 0 1]=h4 at *
 have Ip:=g4.obj vq (ci vq o3 (show(3:Nat)≠49 by decide))
 have sC:=g4.obj (f3.bM (f2.bM j7)) AW
 obtain⟨Yl,_⟩:=(k.rt.aU f4).a y (zP k.hy)
 rw[oL]at Yl
 simp only[dh.a_,ag,au,sC,ao,zG,ay,zA,zB,ab]
 refine gO (i:=1) Yl Arg.bL rfl fun _=>?_
 simp only[aD,ag,au,(k.rw.aU f4).b,ao,zG,zA,zB,ab]
 refine⟨fun _=>False,fun _ h=>h.elim,k.ZE f4 aa0 fun h5 f5=>?_⟩
 have o5:=f5.bM o4
 simp only[ag,aF,o5,dC,bG,zG]
 refine⟨⟨wo,rfl,rfl,by simp[cf,putCells]⟩,?_⟩
 have f6:Fr h0 (h5.put vo 3 [I (fE bk.bs c)]) fun _=>False:=(f4.bX f5).put (.inr lG)
 have g6:Fr h5 (h5.put vo 3 [I (fE bk.bs c)]) (·=vo):=Fr.refl.put (.inl rfl)
 have o6:=cX (off:=3) (cs:=[I (fE bk.bs c)]) o5
 generalize h5.put vo 3 [I (fE bk.bs c)]=h6 at *
 have Io:=g6.obj (f5.bM Ip) (ci (f5.bM Ip) o5 (show(3:Nat)≠49 by decide))
 have AS:=g6.obj (f5.bM sC) AW
 simp only[dh.aQ]
 refine di o6 rfl fun _=>?_
 simp only[ag,au,AS,ao,zG,ay,zA,zB,ab]
 refine H8 (o:=jN 2 ByteArray.empty [fE bk.qs a] (fE bk.bs c) w) (xf:=.sl id 0 1) k f6 (.inr (.inr ⟨id,[],false,3,rfl,fun _=>rfl,by rw[Io];rfl⟩)) ?_ ?_ rfl
 ·refine tL k.rw.x fun i off n e=>?_
  cases e
  exact zR (f1.bX f2).next hid
 ·intro i off n e
  cases e
  have h1:=zR (f1.bX f2).next hid
  have h2:=h0.lt _ _ k.rw.b
  have h3:=k.rw.n.1
  omega
theorem Wt{g:fZ}(hB:V6 n0 b xr bk xq xb xd yl rs kk)(jT:eF bk.bs y.1.name=some g)(yI:0<=y.1.num)(jS:g.size<63->y.1.num<2^g.size.toNat)
  (k:KW W QR QN QE QP h0 n0 b xr xo xp x2 bk xq xb xd yl l rs w M0 V0 y j (match mZ w g y.1.num with |none=>.ok l |some w'=>gU bk (rs.map (·.1)) w' (sg rs (j+1) kk) l)) (f:Fr h0 h fun _=>False) (bS:h.obj vr=some (aN (ay y) 6 42)) (hj:j+1+kk<=rs.length) (wX:y.1.rows=kk) (hg:GO bk (sg rs (j+1) kk)) :
  dh.dW W QR QN QE QP (.ptr b 0) x2 (U w.cN) (U w.value) (I j) (.ptr vr 0) h:=by
 have hlen:=k.rt.n
 have eR:=k.rw.aU f
 have hY:=List.mem_of_find?_eq_some jT
 have hs:=k.sc.bf.i.ok.sb g hY
 have ht:=k.sc.bf.i.ok.tb
 have rN:=k.sc.nm y (zP k.hy)
 obtain⟨U7,M',V',hwi⟩:=Xh k.wi k.sc.bf.i.ok k.bp hY yI jS rN
 simp only[dh.dW,aD,ag,au,eR.b,bS,ao,zG,ay,zA,zB,ab]
 refine⟨fun _=>False,fun _ h=>h.elim,rk eR.s.cF (by have:=lens k.sc.bf.i.ok;omega) (fun hn=>by rw[jT]at hn;cases hn) fun q g' hq Br=>?_⟩
 rw[jT]at Br;cases Br
 have w64:IntKind.i64.wrap (g.size-1)=g.size-1:=aS (by omega) (by omega)
 have Ok:IntKind.u64.bits=64:=rfl
 have s0:0<=g.size-1:=by omega
 have hm:IntKind.u64.wrap (IntKind.u64.wrap (IntKind.u64.wrap (IntKind.u64.wrap (1*2^(min (g.size-1).toNat 64))*2)-1)*2^(min g.from_.toNat 64))=gA g:=by
  unfold gA
  have e:IntKind.u64.wrap (IntKind.u64.wrap (1*2^(min (g.size-1).toNat 64))*2)=IntKind.u64.wrap (1*2^(min g.size.toNat 64)):=by
   obtain⟨s,es⟩:∃s:Nat,g.size=s+1:=⟨(g.size-1).toNat,by omega⟩
   have e1:(g.size-1).toNat=s:=by omega
   have e2:g.size.toNat=s+1:=by omega
   rw[e1,e2,Nat.min_eq_left (by omega),Nat.min_eq_left (by omega),Int.one_mul,Int.one_mul,Int.pow_succ,rC]
   have h3:2^s<=2^63:=Nat.pow_le_pow_right (by decide) (by omega)
   have h5:(2:Nat)^63=9223372036854775808:=by decide
   generalize 2^s=P at *
   rw[Ax (x:=(P:Int)) (by omega) (by omega)]
  rw[e]
 have hv:IntKind.u64.wrap (IntKind.u64.wrap y.1.num*2^(min g.from_.toNat 64))=valOf g y.1.num:=rfl
 have w1:∀x:Int,0<=x/\x<=1000000000->IntKind.i64.wrap x=x:=fun x hx=>aS (by omega) (by omega)
 simp only[dh.dx,aD,ag,au,eR.b,ao,zG,zA,zB,ab]
 refine dn (k:=2) eR.s.cF jk hq (by omega) rfl fun _=>?_
 simp only[jL,w64,pk,s0,zH,Ok]
 have ZG:∀{t:TypeId}{c:Bool}{x y:Int}{K:AV->Prop},ah Pg .mul t c (U x) (U y) K=K (U (IntKind.u64.wrap (x*y))):=fun{t c x y K}=>by simp[ah]
 simp only[ZG,C3,aD,ag,au,eR.b,ao,zG,zA,zB,ab]
 refine dn (k:=1) eR.s.cF jk hq (by omega) rfl fun _=>?_
 simp only[pk,hs.2.1,zH,Ok,hm,dh.cT,ag,au,bS,ao,zG,ay,zA,zB,ab,J5,aD,eR.b]
 refine dn (k:=1) eR.s.cF jk hq (by omega) rfl fun _=>?_
 simp only[pk,hs.2.1,zH,Ok,hv,dh.da,wF]
 have FZ:∀{t:TypeId}{c:Bool}{x y:Int}{K:AV->Prop},ah Pg .eql t c (U x) (U y) K=K (B (x==y)):=fun{t c x y K}=>by simp[ah]
 have fin:∀t,t=((jW w.cN (gA g)==0)||(jW w.value (gA g)==valOf g y.1.num))->dh.cy W QR QN QE QP (.ptr b 0) x2 (U w.cN) (U w.value) (I j) (.ptr vr 0) (U (gA g)) (U (valOf g y.1.num)) (B t) h:=fun t tV=>by
  unfold mZ at k
  cases t with
  |true=>
   have Nd:¬(jW w.value (gA g)≠jW (valOf g y.1.num) w.cN):=by
    rw[U7]
    intro hc
    apply hc
    have:=tV.symm
    simp only[Bool.or_eq_true,beq_iff_eq]at this
    exact this
   rw[zW Nd]at k
   simp only[dh.cy,aj,zD,zF,zC,zI,aT,w1 ((j:Int)+1) (by omega),ag,au,bS,ao,zG,ay,zA,zB,ab,wX,w1 ((j:Int)+1+kk) (by omega),EL]
   refine⟨SW b xo xp,fun id hs _=>k.hW id (.inl hs),hB h _ _ (j+1) ⟨true,vp w.cN (gA g),vp w.value (valOf g y.1.num)⟩ M' V' xo xp l hwi eR (k.rt.aU f) hj hg (fun _ h=>h) fun h3 hw f3=>?_⟩
   exact k.hk h3 (hw.base f.next fun id h=>.inl h) (SW.trans (SW.aO f) (fun _ h=>.inl h) f3)
  |false=>
   have jF:jW w.value (gA g)≠jW (valOf g y.1.num) w.cN:=by
    rw[U7]
    intro hc
    have:=tV.symm
    simp only[Bool.or_eq_false_iff,beq_eq_false_iff_ne]at this
    exact hc.elim this.1 this.2
   rw[zX jF]at k
   simp only[dh.cy,aj,zE,zD,zC,zH]
   exact k.hk h ⟨xo,xp,eR,fun _ h=>.inl h⟩ (SW.aO f)
 have fin:=fin _ rfl
 rw[FZ]
 cases hc:(jW w.cN (gA g)==0) with
 |true=>
  rw[hc]at fin
  simpa[-dh.cy,dh.cK,dh.cz] using fin
 |false=>
  rw[hc]at fin
  simp only[dh.cK,ck,zT,zE,zD,zC,zI,wF,FZ,dh.cz,bu,if_false]
  simpa[-dh.cy] using fin
end
end
section
open Go.Ab
attribute [-simp] aX aF
theorem RW.T0{n0:Nat}{h:AH}{b:Nat}{xr:AV}{bk:Bk}{xq xb xd:AV}{yl:List (bY×AV)}{l l':OL}{pl er fD FY:Int}{many uJ:Bool}{xo xp fj fi:AV}(a:RW n0 h b xr bk xq xb xd yl l pl er many xo xp)(a':RW n0 h b xr bk xq xb xd yl l' fD FY uJ fj fi):l.length=l'.length:=by
 have h1:=a.fX.2 (fun v=>v=I l'.length)
 have h2:=a'.fX.2 (fun v=>v=I l'.length)
 have hb:=a.b
 rw[a'.b]at hb
 have KC:fj=xo:=by
  have:=congrArg (fun o:Option AO=>(o.map (·.cells)).bind (·[7]?)) hb
  simpa[EQ,aN] using this
 rw[KC,h1]at h2
 have h3:=h2.mpr rfl
 have:(l.length:Int)=l'.length:=by injection h3 with h4;injection h4
 omega
section
variable {W:Nat->Prop} {QR QN:VK} {QE:Nat->VK} {QP:AV->AH->Prop} {h h0:AH} {n0 b vo vr:Nat} {xr xo xp x2:AV} {bk:Bk} {xq xb xd:AV} {yl:List (bY×AV)} {l:OL} {rs:List (Row×AV)} {w:gJ} {M0 V0:Nat} {y:Row×AV} {j kk:Nat} {one:Except Int OL}
theorem SJ(hB:V6 n0 b xr bk xq xb xd yl rs kk)(k:KW W QR QN QE QP h0 n0 b xr xo xp x2 bk xq xb xd yl l rs w M0 V0 y j (fP (gU bk (rs.map (·.1)) w (sg rs (j+1) kk)) y.1.num.toNat l))(f:Fr h0 h fun _=>False)(iz:¬SW b xo xp vr)(bS:h.obj vr=some (aN (ay y) 6 42))(hj:j+1+kk<=rs.length)(wX:y.1.rows=kk)(hg:GO bk (sg rs (j+1) kk)) :
  dh.bV W QR QN QE QP (.ptr b 0) x2 (U w.cN) (U w.value) (I j) (.ptr vr 0) h:=by
 unfold dh.bV dh.cl
 have hlen:=k.rt.n
 have rN:=k.sc.nm y (zP k.hy)
 have XD:=k.rw.aU f
 have rA:=k.rt.aU f
 have hk:∀h',WP n0 xr bk xq xb xd yl b h xo xp h' (fP (gU bk (rs.map (·.1)) w (sg rs (j+1) kk)) y.1.num.toNat l)->Fr h h' (SW b xo xp)->dh.n1 W QR QN QE QP (.ptr b 0) x2 (U w.cN) (U w.value) (I j) h':=fun h' hw f'=>k.hk h' (hw.base f.next fun id h=>.inl h) (SW.trans (SW.aO f) (fun _ h=>.inl h) f')
 have hW:∀id,SW b xo xp id\/h.next<=id->W id:=fun id hid=>k.hW id (hid.imp (fun h=>h) (zR f.next))
 generalize hT:fP (gU bk (rs.map (·.1)) w (sg rs (j+1) kk)) y.1.num.toNat l=T at hk
 refine bU (ι:=Nat×Except Int OL) (fun q v h'=>v=[.ptr b 0,x2,U w.cN,U w.value,I j,.ptr vr 0,I (y.1.num.toNat-q.1:Nat)]/\q.1<=y.1.num.toNat/\WP n0 xr bk xq xb xd yl b h xo xp h' q.2/\kJ (fP (gU bk (rs.map (·.1)) w (sg rs (j+1) kk)) q.1) q.2=T/\Fr h h' (SW b xo xp)) (fun q=>q.1) (y.1.num.toNat,.ok l) ⟨by simp,zU _,⟨xo,xp,XD,fun _ h=>.inl h⟩,hT,Fr.refl⟩ ?_
 rintro K ⟨c,res⟩ v h1 ⟨rfl,hc,hw,bq,f1⟩ step
 simp only at hc hw bq step
 have j7:=f1.obj bS iz
 have g1:=XD.tw f1
 simp only[dh.kV,zN,zO,dh.cj,ag,au,j7,ao,zG,ay,zA,zB,ab,aZ]
 cases c with
 |zero=>
  have e1:decide (((y.1.num.toNat-0:Nat):Int)<y.1.num)=false:=by simp;omega
  have jA:res=T:=by
   rw[<-bq]
   cases res<;>rfl
  rw[jA]at hw
  simp only[e1,dh.cn,ck,zS,zE,zD,zC,zH,dh.cb,bu,if_false,dh.bW,aj,zV,zN,zO]
  exact hk h1 hw f1
 |succ c=>
  have e1:decide (((y.1.num.toNat-(c+1):Nat):Int)<y.1.num)=true:=by simp;omega
  have w1:∀x:Int,0<=x/\x<=1000000000->IntKind.i64.wrap x=x:=fun x hx=>aS (by omega) (by omega)
  have w3:IntKind.i64.wrap (((y.1.num.toNat-(c+1):Nat):Int)+1)=((y.1.num.toNat-c:Nat):Int):=by rw[aS (by omega) (by omega)];omega
  rcases hw.cases with⟨l1,iG,jc,rfl,eR,jS⟩ |⟨e,l1,iG,jc,rfl,eR⟩
  ·simp only[nX,fP]at bq
   simp only[e1,dh.cn,ck,zS,zD,zF,zC,zI,aD,ag,au,eR.b,ao,zG,zA,zB,ab,dq,zT,dh.cb,bu,zV,dh.bW,aj,dh.cp,eR.fX.1,eR.fX.2,zH,dh.b_,aT,w1 ((j:Int)+1) (by omega),j7,ay,wX,w1 ((j:Int)+1+kk) (by omega)]
   refine⟨SW b iG jc,fun id hs _=>hW id (jS id hs),hB h1 _ _ (j+1) w M0 V0 iG jc l1 k.wi eR (rA.HE g1) hj hg (fun _ h=>h) fun h2 wU f2=>?_⟩
   have cw:Fr h h2 (SW b xo xp):=SW.trans f1 jS f2
   have rL:=WP.base (h:=h) (xo:=xo) (xp:=xp) wU f1.next jS
   obtain⟨l2,lC,Vr,Iu,lU,nJ,lB⟩:=wU.obj
   have oK:∀l',gU bk (rs.map (·.1)) w (sg rs (j+1) kk) l1=.ok l'->l'.length=l2.length:=fun l' sP=>by
    rw[sP]at wU
    obtain⟨Jr,xp3,pW,_⟩:=wU
    exact pW.T0 lB
   simp only[dh.bQ,aD,ag,au,lB.b,ao,zG,zA,zB,ab,lB.fX.1,lB.fX.2,zH,eG]
   by_cases k1:l2.length=l1.length
   ·have eK:((l2.length:Int)==(l1.length:Int))=true:=by rw[k1];simp
    simp only[eK,dh.bO,aj,zD,zF,zC,zI,zV,zN,zO]
    refine hk h2 ?_ cw
    cases hb:gU bk (rs.map (·.1)) w (sg rs (j+1) kk) l1 with
    |ok l'=>
     rw[hb]at bq rL
     simp only at bq
     rw[zX (by rw[oK l' hb,k1])]at bq
     rw[<-bq];exact rL
    |error e=>
     rw[hb]at bq rL
     simp only at bq
     rw[<-bq];exact rL
   ·have eK:((l2.length:Int)==(l1.length:Int))=false:=by simp;omega
    simp only[eK,dh.bO,aj,zE,zD,zC,zH,dh.bH,aT,w3]
    refine step (c,gU bk (rs.map (·.1)) w (sg rs (j+1) kk) l1) _ h2 (by simp only;omega) ⟨rfl,by simp only;omega,rL,?_,cw⟩
    cases hb:gU bk (rs.map (·.1)) w (sg rs (j+1) kk) l1 with
    |ok l'=>
     rw[hb]at bq
     simp only at bq
     rw[zW (by rw[oK l' hb];exact k1)]at bq
     exact bq
    |error e=>
     rw[hb]at bq
     exact bq
  ·rw[uZ]at bq
   rw[bq]at hw
   simp only[e1,dh.cn,ck,zS,zD,zF,zC,zI,aD,ag,au,eR.b,ao,zG,zA,zB,ab,dq,dh.cb,bu,zV,dh.bW,aj,zE,zH,zN,zO]
   exact hk h1 hw f1
end
section
variable {n0 b:Nat} {xr:AV} {bk:Bk} {xq xb xd:AV} {yl:List (bY×AV)} {rs:List (Row×AV)}
theorem Mm(sc:SC bk rs)(bp:xJ bk)(dl:bk.ds.length<=100000000)(n:Nat):V6 n0 b xr bk xq xb xd yl rs n:=by
 induction n using Nat.strongRecOn with
 |ind n ih=>
 intro h M R a w M0 V0 xo xp l wi rw rt hn hg hM hR
 apply dh.aM
 unfold dh.ir dh.jC
 have hlen:=rt.n
 generalize hT:gU bk (rs.map (·.1)) w (sg rs a n) l=T at hR
 refine bU (ι:=Nat×Except Int OL) (fun q v h'=>v=[.ptr b 0,I (a+n),U w.cN,U w.value,I (a+(n-q.1:Nat):Int)]/\q.1<=n/\WP n0 xr bk xq xb xd yl b h xo xp h' q.2/\GO bk (sg rs (a+(n-q.1)) q.1)/\kJ (gU bk (rs.map (·.1)) w (sg rs (a+(n-q.1)) q.1)) q.2=T/\Fr h h' (SW b xo xp)) (fun q=>q.1) (n,.ok l) ⟨by simp,zU _,⟨xo,xp,rw,fun _ h=>.inl h⟩,by simpa using hg,by simpa[nX] using hT,Fr.refl⟩ ?_
 rintro K ⟨m,res⟩ v h1 ⟨rfl,hm,hw,kC,bq,f1⟩ step
 simp only at hm hw kC bq step
 have ic:=rt.HE (rw.tw f1)
 have fin:WP n0 xr bk xq xb xd yl b h xo xp h1 T->aJ Pg [] R [] h1:=fun iw=>by
  have:=hR h1 iw f1
  simpa[aJ,l9,jo] using this
 unfold dh.cB
 simp only[zN,zO,dh.jD,aZ]
 cases m with
 |zero=>
  have e1:decide ((a:Int)+(n-0:Nat)<a+n)=false:=by simp
  have jA:res=T:=by
   rw[<-bq,uA]
   cases res with
   |error e=>rfl
   |ok l=>rw[nX,um]
  rw[jA]at hw
  simp only[e1,dh.iu,ck,zS,zE,zD,zC,zH,dh.fq,bu,if_false,dh.gg,aj,zV]
  exact fin hw
 |succ m=>
  obtain⟨j,hj⟩:∃j,j=a+(n-(m+1)):=⟨_,rfl⟩
  have ej:(a:Int)+(n-(m+1):Nat)=(j:Int):=by omega
  have e1:decide ((j:Int)<a+n)=true:=by simp;omega
  rw[<-hj]at bq kC
  obtain⟨y,hy⟩:∃y,rs[j]?=some y:=⟨rs[j]'(by omega),zJ _⟩
  rw[wu hy]at bq kC
  obtain⟨⟨b0,b1⟩,go,gt,gd⟩:=kC.inv
  rw[pV (by omega)]at b1
  obtain⟨kk,ie⟩:∃kk:Nat,y.1.rows=kk:=⟨y.1.rows.toNat,by omega⟩
  have lj:kk<=m:=by omega
  rw[ie,zY,jp lj]at gt
  rw[ie,zY,jq]at gd
  have w1:∀x:Int,0<=x/\x<=1000000000->IntKind.i64.wrap x=x:=fun x hx=>aS (by omega) (by omega)
  rcases hw.cases with⟨l1,iG,jc,rfl,eR,jS⟩ |⟨e,l1,iG,jc,rfl,eR⟩
  ·rw[nX,uU,ie,zY,jp lj,jq]at bq
   simp only[e1,ej,dh.iu,ck,zS,zD,zF,zC,zI,aD,ag,au,eR.b,ao,zG,zA,zB,ab,dq,zT,dh.fq,bu,zV,dh.gg,aj,dh.hG]
   have Ht:∀id,SW b iG jc id\/h1.next<=id->(M id\/h.next<=id):=fun id hid=>by
    rcases hid with hid |hid
    ·rcases jS id hid with h' |h'
     ·exact .inl (hM id h')
     ·exact .inr h'
    ·exact .inr (zR f1.next hid)
   refine fV ic.r cO (ic.one hy) hy rfl rfl (fun id hid=>Ht id (.inr hid)) fun vr h3 f3 iz jM=>?_
   simp only[dh.fg,wE]
   refine⟨qV w,by simp[dM,putCells,dC,mw,cf,wi.b];rfl,?_⟩
   refine g_ (cs:=qV w) rfl rfl rfl rfl (fun id hid=>Ht id (.inr (zR f3.next hid))) fun vo h4 f4 lG oo=>?_
   have f34:=f3.bX f4
   have sC:=f4.bM jM
   have AW:vr≠vo:=fun e=>by have:=h3.lt _ _ jM;omega
   have Ur:h1.next<=vo:=zR f3.next lG
   have kw:KW (fun id=>M id\/h.next<=id) (aJ Pg [] R) K (fun(i:Nat) (vs:List AV) (h:AH)=>if i=0 then aJ Pg [] R vs h else False) (fun v h=>R (.cg v) h) h1 n0 b xr iG jc (I (a+n)) bk xq xb xd yl l1 rs w M0 V0 y j (uH bk (rs.map (·.1)) w y.1 (sg rs (j+1) kk) l1):=by
    refine⟨sc,bp,dl,wi,eR,ic,hy,Ht,fun h' iw f'=>?_⟩
    generalize uH bk (rs.map (·.1)) w y.1 (sg rs (j+1) kk) l1=Cd at *
    obtain⟨l2,lC,Vr,Iu,lU,nJ,lB⟩:=iw.obj
    have iT:Fr h h' (SW b xo xp):=SW.trans f1 jS f'
    simp only[dh.n1,aD,ag,au,lB.b,ao,zG,zA,ab]
    refine dn (k:=4) (rt.HE (rw.tw iT)).r cO hy (by omega) rfl fun _=>?_
    rw[ie]
    simp only[aT,w1 (1+(kk:Int)) (by omega),w1 ((j:Int)+(1+kk)) (by omega)]
    have e8:j+1+kk=a+(n-(m-kk)):=by omega
    have e9:(j:Int)+(1+kk)=a+(n-(m-kk):Nat):=by omega
    rw[e8]at bq gd
    exact step (m-kk,Cd) _ h' (by simp only;omega) ⟨by rw[<-e9],by simp only;omega,iw.base f1.next (fun id hid=>jS id hid),gd,bq,iT⟩
   clear bq step
   have e4:(⟨#[114,101,112,101,97,116]⟩:ByteArray)=bj:=rfl
   have e5:(⟨#[105,102]⟩:ByteArray)=fK:=rfl
   have e6:(⟨#[117,115,101]⟩:ByteArray)=cQ:=rfl
   have e7:(⟨#[109,101,97,115,117,114,101]⟩:ByteArray)=cD:=rfl
   have e8:(⟨#[114,101,115,101,116]⟩:ByteArray)=dz:=rfl
   unfold uH at kw
   simp only[dh.e_,ag,au,sC,ao,zG,ay,zA,zB,ab,dh.dO,bB,e6]
   by_cases k3:y.1.kind=cQ
   ·have n1:¬y.1.kind=bj:=by rw[k3];decide
    have n2:¬y.1.kind=fK:=by rw[k3];decide
    rw[zW n1,zW n2,zX k3]at kw
    simp only[zL k3,dh.eu,aj,zD,zF,zC,zI]
    exact SH kw f34 oo sC (go.u k3).1 (go.u k3).2
   simp only[zK k3,dh.eu,aj,zE,zD,zC,zH,dh.eC,bB,e7]
   by_cases k4:y.1.kind=cD
   ·have n1:¬y.1.kind=bj:=by rw[k4];decide
    have n2:¬y.1.kind=fK:=by rw[k4];decide
    rw[zW n1,zW n2,zW k3,zX k4]at kw
    obtain⟨x,z,KB,h0,eL⟩:=go.m k4
    rw[KB]at kw
    simp only[zL k4,dh.dL,aj,zD,zF,zC,zI]
    exact O6 KB kw f34 Ur oo sC AW h0 eL
   simp only[zK k4,dh.dL,aj,zE,zD,zC,zH,dh.d_,bB,e8]
   by_cases k5:y.1.kind=dz
   ·have n1:¬y.1.kind=bj:=by rw[k5];decide
    have n2:¬y.1.kind=fK:=by rw[k5];decide
    rw[zW n1,zW n2,zW k3,zW k4,zX k5]at kw
    obtain⟨x,hx,h0⟩:=go.s k5
    rw[hx]at kw
    simp only[zL k5,dh.dF,aj,zD,zF,zC,zI]
    exact L6 hx kw f34 Ur oo sC AW h0
   simp only[zK k5,dh.dF,aj,zE,zD,zC,zH,dh.eJ,bB,e4]
   by_cases k1:y.1.kind=bj
   ·rw[zX k1]at kw
    simp only[zL k1,dh.ed,aj,zD,zF,zC,zI]
    exact SJ (ih kk (by omega)) kw f34 (eR.fresh iz) sC (by omega) ie (gt (.inl k1))
   rw[zW k1]at kw
   simp only[zK k1,dh.ed,aj,zE,zD,zC,zH,dh.dV,bB,e5]
   by_cases k2:y.1.kind=fK
   ·rw[zX k2]at kw
    obtain⟨g,jT,g0,g1⟩:=go.i k2
    rw[jT]at kw
    simp only[zL k2,dh.dT,aj,zD,zF,zC,zI]
    exact Wt (ih kk (by omega)) jT g0 g1 kw f34 sC (by omega) ie (gt (.inr k2))
   rw[zW k2,zW k3,zW k4,zW k5]at kw
   simp only[zK k2,dh.dT,aj,zE,zD,zC,zH]
   exact kw.hk h4 ⟨iG,jc,eR.aU f34,fun _ h=>.inl h⟩ (SW.aO f34)
  ·rw[uZ]at bq
   rw[bq]at hw
   simp only[e1,ej,dh.iu,ck,zS,zD,zF,zC,zI,aD,ag,au,eR.b,ao,zG,zA,zB,ab,dq,dh.fq,bu,zV,dh.gg,aj,zE,zH]
   exact fin hw
end
end
section
open Go.Ab
attribute [-simp] aX aF
theorem BU{q b:Int}:∀{l:List dS}{i:Nat}{n:Int},(iF q b l i n).2≠0->(iF q b l i n).1<i+l.length
 |[],i,n,h=>by simp[iF]at h
 |o::l,i,n,h=>by
  unfold iF at h ⊢
  split
  ·simp;omega
  ·rename_i h1
   split
   ·simp;omega
   ·rename_i h2
    rw[zW h1,zW h2]at h
    have:=BU h
    simp only[List.length_cons];omega
theorem LA{q b:Int}{l:List dS}(hq:0<=q/\q<=64)(hb:0<=b/\b<=64)(hl:l.length<=4096)(h:(gQ q b l).2≠0):(gQ q b l).1<l.length:=by
 unfold gQ at h ⊢
 rw[zW (by omega),zW (by omega)]at h ⊢
 have:=BU h
 omega
theorem Rb{bk bR:Bk}{own:Option Nat}{i:Int}{r:Row}(a:kF bk)(hl:r.args.length<=100000000)(h:fC bk own i r=.ok bR):bR.ds.length<=bk.ds.length+1:=by
 obtain⟨_,_,_,g2,g3⟩:=nM a hl h
 by_cases k:r.kind=bJ
 ·rw[g3 k];simp
 ·rw[g2 k];omega
theorem MZ(n:Nat):∀{deep:Nat}{own:Option Nat}{i:Nat}{rows:List Row}{bk bR:Bk}(_:rows.length=n)(_:∀r∈rows,r.args.length<=100000000)(_:kF bk)(_:eN deep own i rows bk=.ok bR),bR.ds.length<=bk.ds.length+rows.length:=by
 induction n using Nat.strongRecOn with
 |ind n ih=>
 intro deep own i rows bk bR hn hl a h
 cases rows with
 |nil=>rw[jf]at h;cases h;simp
 |cons r rest=>
  rw[jG]at h
  split at h
  ·cases h
  rename_i hf
  obtain⟨_,_,f1,f2,_⟩:=ug (Classical.not_not.1 hf)
  split at h
  ·cases h
  rename_i lm h1
  split at h
  ·cases h
  rename_i eT h2
  rw[List.length_cons]at hn
  have d1:=Rb a (hl r (List.mem_cons_self ..)) h1
  obtain⟨a1,_⟩:=nM a (hl r (List.mem_cons_self ..)) h1
  have Fp:∀r'∈rest.take r.rows.toNat,r'.args.length<=100000000:=fun r' hr=>hl r' (List.mem_cons_of_mem _ (List.mem_of_mem_take hr))
  have oK:∀r'∈rest.drop r.rows.toNat,r'.args.length<=100000000:=fun r' hr=>hl r' (List.mem_cons_of_mem _ (List.mem_of_mem_drop hr))
  have d2:=ih _ (by rw[yA];omega) rfl Fp a1 h2
  obtain⟨a2,_,s2⟩:=po _ rfl Fp a1 h2
  rw[yA]at d2
  rw[List.length_cons]
  by_cases k:r.kind=bJ
  ·rw[zX k]at h
   have d3:=ih _ (by rw[List.length_drop];omega) rfl oK (td a2 s2).1 h
   rw[List.length_drop]at d3
   simp only[jy,List.length_modify]at d3
   omega
  ·rw[zW k]at h
   have d3:=ih _ (by rw[List.length_drop];omega) rfl oK a2 h
   rw[List.length_drop]at d3
   omega
section
variable {h:AH} {M:Nat->Prop} {R:AE->AH->Prop} {xr:AV} {rs:List (Row×AV)}
def D7(n0:Nat)(xo:AV)(yl:List (dS×AV)):Prop:=cP (n0<=·) xo/\∀y∈yl,cP (n0<=·) y.2
theorem Lf(rt:RT h xr rs)(hn:∀y∈rs,y.1.num<=9223372036854775807)
  (hR:∀xo yl h',yi h' (dj (rs.map (·.1))) xo yl->D7 h.next xo yl->Fr h h' (fun _=>False)->R (.ret (.dY [.agg [I (dj (rs.map (·.1))).q,I (dj (rs.map (·.1))).b,xo],I (dj (rs.map (·.1))).at_,I (dj (rs.map (·.1))).err])) h'):aE Pg 9 [xr] h M R:=by
 apply F9.aM
 unfold F9.bO
 have hv:=AH.cm h (aN ([Value.int .i64 0,.int .i64 0,.slice none 0 0].map AV.sc) 3 27)
 rw[aX]
 refine⟨rfl,?_⟩
 have f1:Fr h (h.alloc (aN ([Value.int .i64 0,.int .i64 0,.slice none 0 0].map AV.sc) 3 27)) (fun _=>False):=Fr.refl.alloc _
 generalize h.alloc (aN ([Value.int .i64 0,.int .i64 0,.slice none 0 0].map AV.sc) 3 27)=h1 at *
 obtain⟨v,rM⟩:∃v,v=h.next:=⟨_,rfl⟩
 rw[<-rM]at hv ⊢
 have ov:h1.obj v=some (aN [I 0,I 0,aW] 3 27):=hv
 have ic:=rt.aU f1
 have hx:=ic.r.one
 unfold F9.bH
 refine⟨[xr,aW,aW,aW,I 0,I 0,B false,aW,aW],by simp[dM,putCells,hx.2],?_⟩
 refine dB (by show(cG xr&&_)=true;rw[hx.1];rfl) fun b h2 f2 U6 ob=>?_
 have cw:=f1.bX f2
 have pX:=rt.aU cw
 have Us:v<h1.next:=h1.lt _ _ ov
 generalize yI:h1.next=n0 at *
 have yu:h.next<=n0:=by have:=f1.next;omega
 have CL:∀{T:TypeId->Bool}{a b:AH},Fr h a (fun _=>False)->Fr a b (TW T n0 a)->Fr h b fun _=>False:=fun fa fb=>fa.trans (fb.mono fun id hid=>.inr (zR yu hid.1))
 have sB:h2.obj v=some (aN [I 0,I 0,aW] 3 27):=f2.bM ov
 have Wv:∀id,n0<=id->(M id\/v<=id):=fun id hid=>.inr (by omega)
 have rb:RB n0 h2 b xr j9 0 0 aW aW aW []:=⟨⟨U6,(fun _ _ _ e=>by cases e),(fun _ _ _ e=>by cases e),(fun _ _ _ e=>by cases e)⟩,ob,.nil,.nil,⟨.nil,rfl,(fun _ h=>by cases h)⟩,fun _ _ _ _ _ e=>by cases e⟩
 have PT:v≠b:=by omega
 have er:(rs.length:Int)=((0:Nat):Int)+(rs.length:Int):=by simp
 have nG:sg rs 0 rs.length=rs.map (·.1):=by unfold sg;simp
 have hL:∀r∈rs.map (·.1),r.args.length<=100000000:=fun r hr=>by
  obtain⟨z,hz,rfl⟩:=List.mem_map.1 hr
  exact(rt.a z hz).2
 have fin:∀{h':AH}{xo:AV}{yl:List (dS×AV)},h'.obj v=some (aN [I (dj (rs.map (·.1))).q,I (dj (rs.map (·.1))).b,xo] 3 27)->yi h' (dj (rs.map (·.1))) xo yl->D7 h.next xo yl->Fr h h' (fun _=>False) ->
   aJ Pg [.cell 2 27,.tmp 3,.tmp 4] R [.ptr v 0,I (dj (rs.map (·.1))).at_,I (dj (rs.map (·.1))).err] h':=fun ho ha hn hf=>CF ho (hR _ _ _ ha hn hf)
 have zero:∀{h':AH}{a e:Int},dj (rs.map (·.1))=⟨0,0,[],a,e⟩->h'.obj v=some (aN [I 0,I 0,aW] 3 27)->Fr h h' (fun _=>False)->aJ Pg [.cell 2 27,.tmp 3,.tmp 4] R [.ptr v 0,I a,I e] h':=fun{h' a e} he ho hf=>by
  have:=fin (h':=h') (xo:=aW) (yl:=[])
  rw[he]at this
  exact this ho ⟨⟨.inl ⟨rfl,rfl⟩,(fun _ h=>by cases h)⟩,rfl,(fun _ h=>by cases h),by simp⟩ ⟨(fun _ _ _ e=>by cases e),fun _ h=>by cases h⟩ hf
 have qn:∀{h':AH}{x y z:AV},h'.obj v=some (aN [I 0,I 0,aW] 3 27)->(h'.put v 0 [x,y,z]).obj v=some (aN [x,y,z] 3 27):=fun ho=>by rw[cX ho];rfl
 have qu:∀{h':AH}{cs:List AV},Fr h h' (fun _=>False)->Fr h (h'.put v 0 cs) fun _=>False:=fun hf=>hf.put (.inr (by omega))
 have VT:nZ j9:=fun _ h=>by cases h
 simp only[F9.bz,pX.r.len.1,pX.r.len.2,zH]
 rw[er]
 refine⟨TW TB n0 h2,fun id hs _=>Wv id hs.1,MY rs.length (a:=0) (deep:=0) (own:=none) (bk:=j9) rb pX CA VT (by decide) (fun k h=>by cases h) (by omega) (by omega) (fun _ h=>h) ?_ ?_⟩
 ·intro pl e h3 hl be f3
  rw[nG]at hl
  obtain⟨cs,Hs,c4,c5⟩:=be
  have dR:=CL cw f3
  have nh:h3.obj v=some (aN [I 0,I 0,aW] 3 27):=TW.obj f3 sB rfl
  have iK:dj (rs.map (·.1))=⟨0,0,[],pl,e⟩:=by
   unfold dj
   rw[show(⟨[],[],[]⟩:Bk)=j9 from rfl,hl]
  simp only[dq,zT,F9.bC,aj,zD,zF,zC,zI,F9.bD]
  refine⟨fun _=>b,fun _ _=>by rw[Hs];simp,⟨_,uY,?_⟩⟩
  simp only[aD,ag,au,Hs,ao,zG,c4,c5,ab,zH,aF,nh,eY,bG]
  refine⟨⟨⟨.inr (by omega),fun _ _=>PT⟩,rfl,rfl,by simp⟩,?_⟩
  simp only[F9.bt]
  exact zero iK (qn nh) (qu dR)
 ·intro bk xq xb xd yl h3 hl vl f3
  rw[nG]at hl
  have dR:=CL cw f3
  have nh:h3.obj v=some (aN [I 0,I 0,aW] 3 27):=TW.obj f3 sB rfl
  have rz:=rt.aU dR
  obtain⟨bf,_,_,IU⟩:=uK hL rs.length (deep:=0) (own:=none) (i:=0) (bk:=j9) (bR:=bk) (by simp) CA (fun k h=>by cases h) (by rw[<-oC,nG];exact hl)
  obtain⟨ms,_,KR⟩:=IU bk jX.refl bf
  have ms:=ms rfl
  rw[<-oC]at ms
  have sc:SC bk rs:=⟨bf,fun k d hd=>KR k (Nat.zero_le _) (zM.1 hd).1 d hd,hn⟩
  have bp:xJ bk:=RD _ rfl hL CA.i .nil hl
  have dl:bk.ds.length<=100000000:=by
   have:=MZ _ rfl hL CA.i hl
   have h3:=rt.n
   simp only[zZ]at this
   have h4:j9.ds.length=0:=rfl
   omega
  have pW:RW n0 h3 b xr bk xq xb xd yl [] 0 0 false aW aW:=⟨⟨vl.n.1,(fun _ _ _ e=>by cases e),(fun _ _ _ e=>by cases e)⟩,vl.b,vl.q,vl.s,vl.d,.nil,⟨[],.nil,rfl,(fun _ h=>by cases h)⟩,by simp⟩
  simp only[dq,zS,F9.bC,aj,zE,zD,zC,zH,F9.bc,rz.r.len.1,rz.r.len.2]
  rw[er]
  refine⟨SW b aW aW,fun id hs _=>?_,Mm sc bp dl rs.length h3 _ _ 0 ⟨false,0,0⟩ 0 0 aW aW [] abW pW rz (by simp) ms (fun _ h=>h) fun h4 hw Vp=>?_⟩
  ·rcases hs with rfl |⟨_,_,e⟩ |⟨_,_,e⟩
   ·exact Wv _ U6
   ·cases e
   ·cases e
  have f4:=pW.tw Vp
  have iT:=CL dR f4
  have yp:h4.obj v=some (aN [I 0,I 0,aW] 3 27):=TW.obj f4 nh rfl
  rw[nG]at hw
  rcases hw.cases with⟨l,xo,xp,hd,st,_⟩ |⟨e,l,xo,xp,hd,st⟩
  ·have lg:LG l:=Ls hL _ ⟨⟨by decide,by decide⟩,⟨by decide,by decide⟩⟩ rfl (fun _ h=>h) hd (fun _ h=>by cases h)
   obtain⟨ol,o1,o2,o3⟩:=st.o
   have Cu:kz h4 xo ol:=⟨o1.cF,fun y hy=>(o3 y hy).1⟩
   have Dn:∀y∈ol,OG y.1:=fun y hy=>by
    have:y.1∈l.map (·.1):=by rw[<-o2];exact List.mem_map_of_mem hy
    obtain⟨x,hx,e⟩:=List.mem_map.1 this
    rw[<-e];exact lg x hx
   have nl:ol.length<=4096:=by
    have:=congrArg List.length o2
    have:=st.len
    simp only[zZ]at *;omega
   have ok:=bf.i.ok
   have DV:=lens ok
   have iK:dj (rs.map (·.1))=if (gQ (aK bk.qs) (aK bk.bs) (l.map (·.1))).2≠0 then⟨0,0,[],(match l[(gQ (aK bk.qs) (aK bk.bs) (l.map (·.1))).1.toNat]? with |some x=>x.2 |none=>0),(gQ (aK bk.qs) (aK bk.bs) (l.map (·.1))).2⟩ else⟨aK bk.qs,aK bk.bs,l.map (·.1),0,0⟩:=by
    conv=>lhs;unfold dj
    rw[show(⟨[],[],[]⟩:Bk)=j9 from rfl,hl]
    simp only[hd]
    all_goals rfl
   have follow:∀v6 h5,Fr h4 h5 (fun _=>False)->h5.obj v6=some (aN [I (aK bk.qs),I (aK bk.bs),xo] 3 27)->F9.n6 (fun id=>M id\/v<=id) (aJ Pg [.cell 2 27,.tmp 3,.tmp 4] R) (aJ Pg [.cell 2 27,.tmp 3,.tmp 4] R) (fun _ _ _=>False) (fun v h=>R (.cg v) h) (.ptr v 0) (.ptr b 0) (.ptr v6 0) h5:=fun v6 h5 f5 o6=>by
    simp only[F9.n6]
    refine di o6 rfl fun _=>?_
    refine⟨fun _=>False,fun _ h=>h.elim,GM (Cu.aU f5) (fun y hy=>zR (Dn y hy).1 (by decide)) fun h6 f6=>?_⟩
    have aaI:∀o∈ol.map (·.1),HX o:=fun o ho=>by
     obtain⟨y,hy,rfl⟩:=List.mem_map.1 ho
     exact(Dn y hy).2
    rw[I3 aaI,o2]
    have nV:=iT.bX (f5.bX f6)
    have f56:=f5.bX f6
    have Td:=st.aU f56
    have EN:=f56.bM yp
    have IQ:=Cu.aU f56
    have P7:=DG (q:=aK bk.qs) (b:=aK bk.bs) (l:=l.map (·.1))
    have aR:=LA (q:=aK bk.qs) (b:=aK bk.bs) (l:=l.map (·.1)) ok.tq ok.tb (by rw[zZ];exact st.len)
    rw[zZ]at aR
    generalize gQ (aK bk.qs) (aK bk.bs) (l.map (·.1))=c at *
    obtain⟨c1,c2⟩:=c
    simp only at iK P7 aR
    simp only[Cc,dN,zA,zB,ab,F9.n5,b5]
    by_cases k1:c2=0
    ·rw[zW (by simpa using k1)]at iK
     have eK:(c2 != 0)=false:=by simp[k1]
     simp only[eK,F9.n4,aj,zE,zD,zC,zH,F9.n1]
     refine di (f6.bM o6) rfl fun _=>?_
     simp only[aF,EN,eY,bG]
     have hx:=IQ.fc.one.1
     refine⟨⟨.inr (by omega),by show(true&&(true&&(cG xo&&true)))=true;rw[hx];rfl,rfl,by simp⟩,?_⟩
     have:=fin (h':=h6.put v 0 [I (aK bk.qs),I (aK bk.bs),xo]) (xo:=xo) (yl:=ol)
     rw[iK]at this
     have fv:Fr h6 (h6.put v 0 [I (aK bk.qs),I (aK bk.bs),xo]) (·=v):=Fr.refl.put (.inl rfl)
     have up:∀{x:AV},cP (n0<=·) x->cP (h.next<=·) x:=fun hx i of n e=>zR yu (hx i of n e)
     refine this (qn EN) ⟨⟨IQ.fc.fr fv fun id o ho ht e=>?_,fun y hy=>(IQ.qs y hy).fr fv fun id o ho ht e=>?_⟩,o2,Dn,nl⟩ ⟨up st.n.2.1,fun y hy=>up (o3 y hy).2.2⟩ (qu nV)
     ·subst e;rw[EN]at ho;cases ho;exact absurd (ht rfl) (show(27:Nat)≠49 by decide)
     ·subst e;rw[EN]at ho;cases ho;exact absurd (ht rfl) (show(27:Nat)≠3 by decide)
    ·rw[zX k1]at iK
     have eK:(c2 != 0)=true:=by simpa using k1
     have k2:=aR k1
     obtain⟨x,hx⟩:∃x,l[c1.toNat]?=some x:=⟨l[c1.toNat]'(by omega),zJ _⟩
     rw[hx]at iK
     simp only[eK,F9.n4,aj,zD,zF,zC,zI,F9.n3]
     rcases Td.x with⟨_,e0⟩ |⟨ix,rfl,Ff⟩
     ·have:l=[]:=by simpa using e0
      subst this
      simp at k2;omega
     ·have Up:v≠ix:=ci EN Ff (show(27:Nat)≠3 by decide)
      have uQ:((l.map (·.2)).flatMap cq)[c1.toNat]?=some (I x.2):=by
       have:=fm (f:=cq) (k:=1) eX (l.map (·.2)) c1.toNat 0 (by omega)
       rw[Nat.mul_one,Nat.add_zero,List.getElem?_map,hx]at this
       exact this
      refine⟨fun i=>if i=4 then b else ix,fun i _=>by show h6.obj (if i=4 then b else ix)≠none;split<;>simp[Td.b,Ff],⟨_,uY,?_⟩⟩
      simp only[aD,ag,au,Td.b,ao,zG,zA,zB,ab,zV,zH,kL,Ff,Nat.mul_one,uQ,zZ]
      refine⟨⟨by omega,by omega⟩,by simp,?_⟩
      simp only[aF,EN,eY,bG]
      refine⟨⟨⟨.inr (by omega),fun i _=>by show v≠(if i=4 then b else ix);split;exact PT;exact Up⟩,rfl,rfl,by simp⟩,?_⟩
      simp only[F9.n2]
      exact zero iK (qn EN) (qu nV)
   have tq:∀{h5:AH}{M5:Nat->Prop}{R5:AE->AH->Prop},Fr h4 h5 (fun _=>False)->R5 (.ret (I (aK bk.qs))) h5->aE Pg 18 [xq] h5 M5 R5:=fun f5 hr=>uv (st.aU f5).q.cF (fun r hr=>by have:=ok.sq r hr;omega) ok.tq.2 (by omega) hr
   have tb:∀{h5:AH}{M5:Nat->Prop}{R5:AE->AH->Prop},Fr h4 h5 (fun _=>False)->R5 (.ret (I (aK bk.bs))) h5->aE Pg 18 [xb] h5 M5 R5:=fun f5 hr=>uv (st.aU f5).s.cF (fun r hr=>by have:=ok.sb r hr;omega) ok.tb.2 (by omega) hr
   have hx:=Cu.fc.one
   have VP:dM (fun i=>[(0,1),(1,1),(2,1)][i]?) ([Value.int .i64 0,.int .i64 0,.slice none 0 0].map .sc) [(0,I (aK bk.qs)),(1,I (aK bk.bs)),(2,xo)]=some [I (aK bk.qs),I (aK bk.bs),xo]:=by simp[dM,putCells,dC,hx.2]
   have tu:[I (aK bk.qs),I (aK bk.bs),xo].all cG=true:=by show(true&&(true&&(cG xo&&true)))=true;rw[hx.1];rfl
   have late:∀h5,Fr h4 h5 (fun _=>False)->∀v6,h4.next<=v6->h5.obj v6=some (aN ([Value.int .i64 0,.int .i64 0,.slice none 0 0].map AV.sc) 3 27)->aG (some 3) (.ptr v6 0) (.agg [I (aK bk.qs),I (aK bk.bs),xo]) h5 (fun id=>M id\/v<=id) fun qH=>F9.n6 (fun id=>M id\/v<=id) (aJ Pg [.cell 2 27,.tmp 3,.tmp 4] R) (aJ Pg [.cell 2 27,.tmp 3,.tmp 4] R) (fun _ _ _=>False) (fun v h=>R (.cg v) h) (.ptr v 0) (.ptr b 0) (.ptr v6 0) qH:=fun h5 f5 v6 hv6 o6=>by
    have hn4:=iT.next
    simp only[aF,o6,eY,bG]
    refine⟨⟨.inr (by omega),tu,rfl,by simp⟩,?_⟩
    refine follow v6 _ (f5.put (.inr hv6)) ?_
    rw[cX o6];rfl
   simp only[F9.a_,aD,ag,au,st.b,ao,zG,zA,zB,ab,F9.aQ,aj,zE,zD,zC,zH,F9.n7,zI]
   have hn4:=iT.next
   refine⟨⟨fun _=>False,fun _ h=>h.elim,tq Fr.refl ⟨⟨fun _=>False,fun _ h=>h.elim,tb Fr.refl ⟨_,VP,?_⟩⟩,?_⟩⟩,?_⟩
   ·exact g_ tu rfl rfl rfl (fun id hid=>.inr (by omega)) fun v6 h5 f5 _ o6=>follow v6 h5 f5 o6
   ·rw[aX]
    refine⟨rfl,⟨fun _=>False,fun _ h=>h.elim,tb (Fr.refl.alloc _) ⟨_,VP,?_⟩⟩⟩
    exact late _ (Fr.refl.alloc _) _ (zU _) (AH.cm _ _)
   ·rw[aX]
    refine⟨rfl,⟨fun _=>False,fun _ h=>h.elim,tq (Fr.refl.alloc _) ⟨fun _=>False,fun _ h=>h.elim,tb (Fr.refl.alloc _) ⟨_,VP,?_⟩⟩⟩⟩
    exact late _ (Fr.refl.alloc _) _ (zU _) (AH.cm _ _)
  ·have iK:dj (rs.map (·.1))=⟨0,0,[],e,115⟩:=by
    unfold dj
    rw[show(⟨[],[],[]⟩:Bk)=j9 from rfl,hl]
    simp only[hd]
   simp only[F9.a_,aD,ag,au,st.b,ao,zG,zA,zB,ab,F9.aQ,aj,zD,zF,zC,zI,F9.n9]
   refine⟨fun _=>b,fun _ _=>by rw[st.b];simp,⟨_,uY,?_⟩⟩
   simp only[aD,ag,au,st.b,ao,zG,zA,zB,ab,zH,aF,yp,eY,bG]
   refine⟨⟨⟨.inr (by omega),fun _ _=>PT⟩,rfl,rfl,by simp⟩,?_⟩
   simp only[F9.n8]
   exact zero iK (qn yp) (qu iT)
end
end
section
open Go.Ab
attribute [-simp] aX aF
section
variable {h:AH} {M:Nat->Prop} {R:AE->AH->Prop}
theorem GI{x z:AV}{l:List Int}(hx:cH cq 1 3 h x l)(hz:cH cq 1 3 h z l)(hl:l.length<=100000000)(hR:R (.ret (B true)) h):aE Pg 23 [x,z] h M R:=by
 apply sj.aM
 simp only[sj.bt,sj.bc,hx.len.1,hx.len.2,hz.len.1,hz.len.2,zH,b5]
 have e0:((l.length:Int) != (l.length:Int))=false:=by simp
 simp only[e0,sj.a_,aj,zE,zD,zC,zH,sj.n9]
 unfold sj.n8
 refine bU (ι:=Nat) (fun i v h'=>v=[x,z,I i]/\i<=l.length/\h'=h) (fun i=>l.length-i) 0 ⟨rfl,by omega,rfl⟩ ?_
 rintro K i v h' ⟨rfl,hi,rfl⟩ step
 simp only[sj.cB,zN,zO,sj.n7,hx.len.1,hx.len.2,zH,aZ]
 by_cases aR:i<l.length
 ·have eh:(i:Int)<l.length:=by omega
  have g1:l[i]?=some l[i]:=zJ aR
  have w1:IntKind.i64.wrap ((i:Int)+1)=((i+1:Nat):Int):=by rw[aS (by omega) (by omega)];simp
  generalize l[i]=a at *
  simp only[zL eh,sj.n6,aj,zD,zF,zC,zI,sj.n5]
  refine gZ hx eX g1 rfl fun _=>?_
  refine gZ hz eX g1 rfl fun _=>?_
  have e1:(a != a)=false:=by simp
  simp only[b5,e1,sj.n4,aj,zE,zD,zC,zH,sj.n2,aT,w1]
  exact step (i+1) _ _ (by omega) ⟨rfl,by omega,rfl⟩
 ·have dA:¬(i:Int)<l.length:=by omega
  simp only[zK dA,sj.n6,aj,zE,zD,zC,zH,zV,sj.n1]
  simpa using hR
theorem abO{t:TypeId}{c:Bool}{x y:Bool}{K:AV->Prop}(hb:rj Pg t=true):ah Pg .neq t c (B x) (B y) K=K (B (!(x==y))):=by simp[ah,hb]
theorem W9:rj Pg 4=true:=by kernel_rfl
theorem G4{α:Type}{f:α->List AV}{sz:Nat}{ty:TypeId}{x:AV}{l:List α}{i:Nat}{y:α}{K:AV->Nat->Prop}(hl:cH f sz ty h x l)(hf:∀y,(f y).length=sz)(hi:l[i]?=some y)(hK:∀id,x=.sl id 0 l.length->K (.agg (f y)) id) :
  br (some (sz,none)) x (.sc (.int .i64 i)) fun t=>al (some true) (some sz) t h K:=by
 have aR:i<l.length:=(zM.1 hi).1
 obtain⟨id,cells,ro,j3,rfl,ho,h1,h2,_⟩:=hl.at_ hf hi
 simp only[kL,oF,ho,mG,zG,zY]
 refine⟨⟨by omega,by omega⟩,h2,?_⟩
 rw[h1];exact hK _ rfl
theorem ww{q b:Int}{xa xb:AV}{ya yb:List (dS×AV)}(ha:kz h xa ya)(hb:kz h xb yb)(he:ya.map (·.1)=yb.map (·.1))(hn:ya.length<=4096)(hg:∀y∈ya,OG y.1)
  (hR:∀h',Fr h h' (fun _=>False)->R (.ret (B true)) h'):aE Pg 11 [.agg [I q,I b,xa],.agg [I q,I b,xb]] h M R:=by
 apply jx.aM
 have hlen:ya.length=yb.length:=by have:=congrArg List.length he;simpa using this
 have Ul:=ha.fc.one
 have Uk:=hb.fc.one
 unfold jx.cK
 refine dB (cs:=[I q,I b,xa]) (by show(true&&(true&&(cG xa&&true)))=true;rw[Ul.1];rfl) fun va h1 f1 _ oa=>?_
 refine dB (cs:=[I q,I b,xb]) (by show(true&&(true&&(cG xb&&true)))=true;rw[Uk.1];rfl) fun vb h2 f2 PT ob=>?_
 have wJ:=f2.bM oa
 have cw:=f1.bX f2
 have ji:=ha.aU cw
 have Bw:=hb.aU cw
 have e1:(q != q)=false:=by simp
 have e2:(b != b)=false:=by simp
 have e3:((ya.length:Int) != (yb.length:Int))=false:=by rw[hlen];simp
 simp only[jx.cz,ag,au,wJ,ob,ao,zG,zA,zB,ab,b5,e1,jx.cy,ck,zT,zE,zD,zC,zI,e2,jx.bV,bu,if_false,jx.cl,ji.fc.len.1,ji.fc.len.2,Bw.fc.len.1,Bw.fc.len.2,zH,e3,jx.cj,jx.cn,aj,jx.bW]
 unfold jx.cp
 refine bU (ι:=Nat) (fun i v h'=>v=[.ptr va 0,.ptr vb 0,I i]/\i<=ya.length/\Fr h2 h' (fun _=>False)) (fun i=>ya.length-i) 0 ⟨rfl,by omega,Fr.refl⟩ ?_
 rintro K i v h' ⟨rfl,hi,f3⟩ step
 have Ha:=f3.bM wJ
 have vt:=f3.bM ob
 have Dt:=ji.aU f3
 have Hs:=Bw.aU f3
 simp only[jx.cB,zN,zO,jx.b_,ag,au,Ha,ao,zG,zA,zB,ab,Dt.fc.len.1,Dt.fc.len.2,zH,aZ]
 by_cases aR:i<ya.length
 ·have eh:(i:Int)<ya.length:=by omega
  have UL:i<yb.length:=by omega
  have g1:ya[i]?=some ya[i]:=zJ aR
  have g2:yb[i]?=some yb[i]:=zJ UL
  have jE:ya[i].1=yb[i].1:=by
   have:=congrArg (fun l:List dS=>l[i]?) he
   simp only[List.getElem?_map,g1,g2,yB]at this
   exact Option.some.inj this
  have Hl:=Dt.qs _ (List.getElem_mem aR)
  have X5:=Hs.qs _ (List.getElem_mem UL)
  have Dn:=hg _ (List.getElem_mem aR)
  generalize ya[i]=y at *
  generalize yb[i]=z at *
  obtain⟨o,x1⟩:=y
  obtain⟨o',x2⟩:=z
  simp only at jE
  subst jE
  have w1:IntKind.i64.wrap ((i:Int)+1)=((i+1:Nat):Int):=by rw[aS (by omega) (by omega)];simp
  simp only[zL eh,jx.bQ,aj,zD,zF,zC,zI,jx.bO]
  obtain⟨Hf,exb,TK⟩:∃Hf,xb=.sl Hf 0 yb.length/\h'.obj Hf≠none:=by
   obtain⟨id,cells,ro,j3,h1,h2,_⟩:=Hs.fc.at_ eW g2
   exact⟨id,h1,by rw[h2];simp⟩
  have follow:∀vx vy h4,Fr h' h4 (fun _=>False)->h4.obj vx=some (aN (cf (o,x1)) 7 49)->h4.obj vy=some (aN (cf (o,x2)) 7 49)->jx.bH (fun id=>M id\/h.next<=id) (aJ Pg [.tmp 4] R) K (fun(i:Nat) (vs:List AV) (h:AH)=>if i=0 then jx.n1 (fun id=>M id\/h.next<=id) (aJ Pg [.tmp 4] R) (aJ Pg [.tmp 4] R) (fun _ _ _=>False) (fun v h=>R (.cg v) h) h else False) (fun v h=>R (.cg v) h) (.ptr va 0) (.ptr vb 0) (I i) (.ptr vx 0) (.ptr vy 0) h4:=fun vx vy h4 f4 ox oy=>by
   have c1:(o.kind != o.kind)=false:=by simp
   have c2:(!decide (o.name=o.name))=false:=by simp
   have c3:(o.bit != o.bit)=false:=by simp
   have c4:(!(o.cond==o.cond))=false:=by simp
   have c5:(o.cN != o.cN)=false:=by simp
   have c6:(o.value != o.value)=false:=by simp
   have Zw:∀{t:TypeId}{c:Bool}{a b:ByteArray}{K:AV->Prop},ah Pg .neq t c (Sb a) (Sb b) K=K (B (!decide (a=b))):=fun{t c a b K}=>rfl
   simp only[jx.bH,ag,au,ox,oy,ao,zG,cf,zA,zB,ab,b5,c1,jx.bz,ck,zT,zE,zD,zC,zI,Zw,decide_true,zS,jx.bC,bu,if_false,jx.bD]
   refine⟨fun _=>False,fun _ h=>h.elim,GI (Hl.aU f4) (X5.aU f4) Dn.1 ?_⟩
   simp only[dq,zS,jx.bt,bu,zE,if_false,jx.bc,ck,zT,zD,zC,zI,ag,au,ox,oy,ao,zG,cf,zA,zB,ab,b5,c3,jx.a_,jx.aQ,abO W9,c4,jx.n9,jx.n8,wE,c5,jx.n7,jx.n6,c6,jx.n5,jx.n4,aj,zH,jx.n2,aT,w1]
   exact step (i+1) _ h4 (by omega) ⟨rfl,by omega,f3.bX f4⟩
  refine⟨fun i=>if i=6 then vb else Hf,fun i _=>by show h'.obj (if i=6 then vb else Hf)≠none;split;rw[vt];simp;exact TK,?_⟩
  simp only[ag,au,Ha,vt,ao,zG,zA,zB,ab]
  refine gO Dt.fc eW g1 fun _=>?_
  refine⟨by simp,?_⟩
  refine G4 Hs.fc eW g2 fun id hid=>?_
  have eid:id=Hf:=by rw[exb]at hid;cases hid;rfl
  subst eid
  refine⟨by simp,?_⟩
  have ab0:=h'.lt _ _ vt
  have ab2:id<h'.next:=by
   rcases ho:h'.obj id with _ |p
   ·exact absurd ho TK
   ·exact h'.lt _ _ ho
  have nx:h.next<=h'.next:=zR cw.next f3.next
  have z7:([Value.int .i64 0,.string ⟨#[]⟩,.slice none 0 0,.int .i64 0,.bool false,.int .u64 0,.int .u64 0].map AV.sc).length=7:=rfl
  have first:=AH.cm h' (aN ([Value.int .i64 0,.string ⟨#[]⟩,.slice none 0 0,.int .i64 0,.bool false,.int .u64 0,.int .u64 0].map AV.sc) 7 49)
  have fa:Fr h' (h'.alloc (aN ([Value.int .i64 0,.string ⟨#[]⟩,.slice none 0 0,.int .i64 0,.bool false,.int .u64 0,.int .u64 0].map AV.sc) 7 49)) (fun _=>False):=Fr.refl.alloc _
  have TJ:=jU (y:=(o,x1)) Hl.one.1
  have TI:=jU (y:=(o,x2)) X5.one.1
  have Ik:∀{hh:AH}{v:Nat}{cs:List AV},hh.obj v=some (aN ([Value.int .i64 0,.string ⟨#[]⟩,.slice none 0 0,.int .i64 0,.bool false,.int .u64 0,.int .u64 0].map AV.sc) 7 49)->cs.length=7->(hh.put v 0 cs).obj v=some (aN cs 7 49):=fun{hh v cs} ho hc=>by
   rw[pj ho]
   congr 1
   simp only[aN]
   congr 1
   exact my (by rw[hc];rfl)
  generalize hh1:h'.alloc (aN ([Value.int .i64 0,.string ⟨#[]⟩,.slice none 0 0,.int .i64 0,.bool false,.int .u64 0,.int .u64 0].map AV.sc) 7 49)=eL at *
  have second:=AH.cm eL (aN ([Value.int .i64 0,.string ⟨#[]⟩,.slice none 0 0,.int .i64 0,.bool false,.int .u64 0,.int .u64 0].map AV.sc) 7 49)
  have fb:Fr eL (eL.alloc (aN ([Value.int .i64 0,.string ⟨#[]⟩,.slice none 0 0,.int .i64 0,.bool false,.int .u64 0,.int .u64 0].map AV.sc) 7 49)) (fun _=>False):=Fr.refl.alloc _
  have FU:=fb.bM first
  have n01:h'.next<eL.next:=eL.lt _ _ first
  simp only[aX,hh1]
  generalize eL.alloc (aN ([Value.int .i64 0,.string ⟨#[]⟩,.slice none 0 0,.int .i64 0,.bool false,.int .u64 0,.int .u64 0].map AV.sc) 7 49)=ft at *
  have vV:=fa.bX fb
  refine⟨⟨rfl,rfl,?_⟩,rfl,rfl,?_⟩
  ·simp only[aF,FU,eY,bG]
   refine⟨⟨⟨.inr nx,fun i _=>by show h'.next≠(if i=6 then vb else id);split<;>omega⟩,TJ,rfl,by simp⟩,?_⟩
   have g3:Fr ft (ft.put h'.next 0 (cf (o,x1))) (·=h'.next):=Fr.refl.put (.inl rfl)
   have p3:=Ik FU (eW (o,x1))
   have Vq:Fr h' (ft.put h'.next 0 (cf (o,x1))) (fun _=>False):=vV.put (.inr (zU _))
   generalize ft.put h'.next 0 (cf (o,x1))=oN at *
   have s3:=g3.obj second (by omega)
   simp only[s3,bG]
   refine⟨⟨.inr (by omega),TI,rfl,by simp⟩,?_⟩
   have g4:Fr oN (oN.put eL.next 0 (cf (o,x2))) (·=eL.next):=Fr.refl.put (.inl rfl)
   exact follow _ _ _ (Vq.put (.inr (by omega))) (g4.obj p3 (by omega)) (Ik s3 (eW (o,x2)))
  ·simp only[aF,second,eY,bG]
   refine⟨⟨⟨.inr (by omega),fun i _=>by show eL.next≠(if i=6 then vb else id);split<;>omega⟩,TJ,rfl,by simp⟩,?_⟩
   have g3:Fr ft (ft.put eL.next 0 (cf (o,x1))) (·=eL.next):=Fr.refl.put (.inl rfl)
   have p3:=Ik second (eW (o,x1))
   have Vq:Fr h' (ft.put eL.next 0 (cf (o,x1))) (fun _=>False):=vV.put (.inr (by omega))
   generalize ft.put eL.next 0 (cf (o,x1))=oN at *
   have s3:=g3.obj FU (by omega)
   simp only[s3,bG]
   refine⟨⟨.inr nx,TI,rfl,by simp⟩,?_⟩
   have g4:Fr oN (oN.put h'.next 0 (cf (o,x2))) (·=h'.next):=Fr.refl.put (.inl rfl)
   exact follow _ _ _ (Vq.put (.inr (zU _))) (g4.obj p3 (by omega)) (Ik s3 (eW (o,x2)))
 ·have dA:¬(i:Int)<ya.length:=by omega
  simp only[zK dA,jx.bQ,aj,zE,zD,zC,zH,zV,jx.n1]
  simpa using hR h' (cw.bX f3)
end
end
section
open Go.Ab
attribute [-simp] aX aF
abbrev tq:ByteArray:=⟨#[113]⟩
abbrev t1:ByteArray:=⟨#[113,117,98,105,116,115,32,113,32,49,59,32,98,105,116,115,32,99,32,50,59,32,98,105,116,115,32,100,32,49,59,32,109,101,97,115,117,114,101,32,113,91,48,93,32,100,91,48,93,59,32,105,102,32,100,32,49,32,123,32,120,32,113,91,48,93,59,32,125]⟩
abbrev t2:ByteArray:=⟨#[103,97,116,101,32,103,32,120,32,123,32,103,32,120,59,32,125]⟩
abbrev t3:ByteArray:=⟨#[113,117,98,105,116,115,32,113,32,49,59,32,114,101,112,101,97,116,32,53,48,48,48,32,123,32,120,32,113,91,48,93,59,32,125]⟩
abbrev su:List Row:=[⟨ch,⟨#[113]⟩,[],1,0,0⟩,⟨cZ,⟨#[99]⟩,[],2,0,12⟩,⟨cZ,⟨#[100]⟩,[],1,0,22⟩,⟨cD,ByteArray.empty,[⟨⟨#[113]⟩,0⟩,⟨⟨#[100]⟩,0⟩],0,0,32⟩,⟨fK,⟨#[100]⟩,[],1,1,51⟩,⟨cQ,⟨#[120]⟩,[⟨⟨#[113]⟩,0⟩],0,0,60⟩]
abbrev ki:List Row:=[⟨bJ,⟨#[103]⟩,[⟨⟨#[120]⟩,-1⟩],0,1,0⟩,⟨cQ,⟨#[103]⟩,[⟨⟨#[120]⟩,-1⟩],0,0,11⟩]
abbrev nL:List Row:=[⟨ch,⟨#[113]⟩,[],1,0,0⟩,⟨bj,ByteArray.empty,[],5000,1,12⟩,⟨cQ,⟨#[120]⟩,[⟨⟨#[113]⟩,0⟩],0,0,26⟩]
theorem Tp:pY t1=.ok su:=by
 rw[<-wB]
 kernel_rfl
theorem To:pY t2=.ok ki:=by
 rw[<-wB]
 kernel_rfl
theorem Tn:pY t3=.ok nL:=by
 rw[<-wB]
 kernel_rfl
theorem ED{f:OL->Except Int OL}{o:dS}{pl:Int}(hf:∀l,f l=jz l o pl):∀(n:Nat)(l:OL),l.length<=4096->4096<l.length+n->fP f n l=.error pl
 |0,l,h1,h2=>by omega
 |n+1,l,h1,h2=>by
  simp only[fP,hf,jz]
  by_cases k:l.length=4096
  ·rw[zX k]
  ·rw[zW k]
   simp only[List.length_append,List.length_singleton]
   rw[zW (by omega)]
   exact ED hf n _ (by simp;omega) (by simp;omega)
end
section
open Go.Ab
def xx:Nat->List bY->List Row->Int->Int
 |0,_,_,n=>n
 |_+1,_,[],n=>n
 |m+1,ds,r::rest,n=>xx m ds (rest.drop r.rows.toNat) (min (n+iC ds r (xx m ds (rest.take r.rows.toNat) 0)) 4097)
theorem xu:∀(m:Nat)(ds:List bY)(rows:List Row)(n:Int),rows.length<=m->xx m ds rows n=countP ds rows n
 |0,ds,rows,n,h=>by
  have:rows=[]:=List.length_eq_zero_iff.1 (by omega)
  subst this
  rw[countP_nil];rfl
 |m+1,ds,[],n,h=>by rw[countP_nil];rfl
 |m+1,ds,r::rest,n,h=>by
  rw[List.length_cons]at h
  rw[countP_cons]
  simp only[xx]
  rw[xu m _ _ _ (by simp only[yA,List.length_drop];omega),xu m _ _ _ (by simp only[yA,List.length_drop];omega)]
def DO:Nat->Nat->Option Nat->Nat->List Row->Bk->Except (Int×Int) Bk
 |0,_,_,_,_,bk=>.ok bk
 |_+1,_,_,_,[],bk=>.ok bk
 |m+1,deep,own,i,r::rest,bk=>
  if kH r rest.length deep own.isSome≠0 then .error (r.place,kH r rest.length deep own.isSome)
  else match fC bk own i r with
   |.error e=>.error (r.place,e)
   |.ok lm=>match DO m (deep+1) (if r.kind=bJ then some bk.ds.length else own) (i+1) (rest.take r.rows.toNat) lm with
    |.error e=>.error e
    |.ok eT=>DO m deep own (i+1+r.rows.toNat) (rest.drop r.rows.toNat) (if r.kind=bJ then{ eT with ds:=jy eT.ds bk.ds.length (xx m eT.ds (rest.take r.rows.toNat) 0) } else eT)
theorem rI:∀(m:Nat)(deep:Nat)(own:Option Nat)(i:Nat)(rows:List Row)(bk:Bk),rows.length<=m->DO m deep own i rows bk=eN deep own i rows bk
 |0,deep,own,i,rows,bk,h=>by
  have:rows=[]:=List.length_eq_zero_iff.1 (by omega)
  subst this
  rw[jf];rfl
 |m+1,deep,own,i,[],bk,h=>by rw[jf];rfl
 |m+1,deep,own,i,r::rest,bk,h=>by
  rw[List.length_cons]at h
  rw[jG]
  simp only[DO]
  split
  ·rfl
  ·cases fC bk own i r with
   |error e=>rfl
   |ok lm=>
    simp only
    rw[rI m _ _ _ _ _ (by rw[yA];omega)]
    cases eN (deep+1) (if r.kind=bJ then some bk.ds.length else own) (i+1) (rest.take r.rows.toNat) lm with
    |error e=>rfl
    |ok eT=>
     simp only
     rw[rI m _ _ _ _ _ (by rw[List.length_drop];omega),xu m _ _ _ (by rw[yA];omega)]
def rT (bk : Bk) (L : List Row) : Nat → gJ → List Row → OL → Except Int OL
  | 0, _, _, l => .ok l
  | _ + 1, _, [], l => .ok l
  | m + 1, w, r :: rest, l => kJ (rT bk L m w (rest.drop r.rows.toNat))
    (if r.kind = bj then fP (rT bk L m w (rest.take r.rows.toNat)) r.num.toNat l
     else if r.kind = fK then (match eF bk.bs r.name with
      | none => .ok l
      | some g => match mZ w g r.num with
        | none => .ok l
        | some w' => rT bk L m w' (rest.take r.rows.toNat) l)
     else uH bk L w r [] l)
theorem BQ{bk:Bk}{L:List Row}:∀(m:Nat)(w:gJ)(rows:List Row)(l:OL),rows.length<=m->rT bk L m w rows l=gU bk L w rows l
 |0,w,rows,l,h=>by
  have:rows=[]:=List.length_eq_zero_iff.1 (by omega)
  subst this
  rw[um];rfl
 |m+1,w,[],l,h=>by rw[um];rfl
 |m+1,w,r::rest,l,h=>by
  rw[List.length_cons]at h
  rw[uU]
  simp only[rT]
  have e1:rT bk L m w (rest.drop r.rows.toNat)=gU bk L w (rest.drop r.rows.toNat):=funext fun l=>BQ m w _ l (by rw[List.length_drop];omega)
  have e2:∀w',rT bk L m w' (rest.take r.rows.toNat)=gU bk L w' (rest.take r.rows.toNat):=fun w'=>funext fun l=>BQ m w' _ l (by rw[yA];omega)
  rw[e1,e2]
  congr 1
  unfold uH
  by_cases k1:r.kind=bj
  ·rw[zX k1,zX k1]
  ·by_cases k2:r.kind=fK
   ·simp only[zW k1,zX k2]
    cases eF bk.bs r.name with
    |none=>rfl
    |some g=>
     simp only
     cases mZ w g r.num with
     |none=>rfl
     |some w'=>simp only;rw[e2]
   ·simp only[zW k1,zW k2]
theorem WB:∃bk,eN 0 none 0 su j9=.ok bk/\aK bk.qs=1/\aK bk.bs=3/\gU bk su ⟨false,0,0⟩ su []=.ok [(⟨2,ByteArray.empty,[0],2,false,0,0⟩,32),(⟨1,⟨#[120]⟩,[0],0,true,4,4⟩,60)]:=by
 refine⟨⟨[⟨⟨#[113]⟩,0,1⟩],[⟨⟨#[99]⟩,0,2⟩,⟨⟨#[100]⟩,2,1⟩],[]⟩,?_,by decide,by decide,?_⟩
 ·rw[<-rI 6 _ _ _ _ _ (by decide)]
  kernel_rfl
 ·rw[<-BQ 6 _ _ _ (by decide)]
  kernel_rfl
theorem W3:dj su=⟨1,3,[⟨2,ByteArray.empty,[0],2,false,0,0⟩,⟨1,⟨#[120]⟩,[0],0,true,4,4⟩],0,0⟩:=by
 obtain⟨bk,h1,h2,h3,h4⟩:=WB
 unfold dj
 rw[show(⟨[],[],[]⟩:Bk)=j9 from rfl,h1]
 simp only[h4,h2,h3,List.map_cons,List.map_nil]
 have hc:gQ 1 3 [⟨2,ByteArray.empty,[0],2,false,0,0⟩,⟨1,⟨#[120]⟩,[0],0,true,4,4⟩]=(0,0):=by kernel_rfl
 rw[hc]
 rfl
theorem W2:dj ki=⟨0,0,[],11,114⟩:=by
 have h1:eN 0 none 0 ki j9=.error (11,114):=by
  rw[<-rI 6 _ _ _ _ _ (by decide)]
  kernel_rfl
 unfold dj
 rw[show(⟨[],[],[]⟩:Bk)=j9 from rfl,h1]
theorem W1:dj nL=⟨0,0,[],26,115⟩:=by
 have h1:eN 0 none 0 nL j9=.ok ⟨[⟨⟨#[113]⟩,0,1⟩],[],[]⟩:=by
  rw[<-rI 6 _ _ _ _ _ (by decide)]
  kernel_rfl
 have h2:gU ⟨[⟨⟨#[113]⟩,0,1⟩],[],[]⟩ nL ⟨false,0,0⟩ nL []=.error 26:=by
  have hf:∀l,rT ⟨[⟨⟨#[113]⟩,0,1⟩],[],[]⟩ nL 1 ⟨false,0,0⟩ [⟨cQ,⟨#[120]⟩,[⟨⟨#[113]⟩,0⟩],0,0,26⟩] l=jz l ⟨1,⟨#[120]⟩,[0],0,false,0,0⟩ 26:=fun l=>by
   have e:rT ⟨[⟨⟨#[113]⟩,0,1⟩],[],[]⟩ nL 1 ⟨false,0,0⟩ [⟨cQ,⟨#[120]⟩,[⟨⟨#[113]⟩,0⟩],0,0,26⟩] l=kJ (fun l=>.ok l) (jz l ⟨1,⟨#[120]⟩,[0],0,false,0,0⟩ 26):=by kernel_rfl
   rw[e]
   cases jz l ⟨1,⟨#[120]⟩,[0],0,false,0,0⟩ 26<;>rfl
  have hr:=ED hf 5000 [] (by decide) (by decide)
  rw[<-BQ 3 _ _ _ (by decide)]
  have e3:rT ⟨[⟨⟨#[113]⟩,0,1⟩],[],[]⟩ nL 3 ⟨false,0,0⟩ nL []=kJ (rT ⟨[⟨⟨#[113]⟩,0,1⟩],[],[]⟩ nL 1 ⟨false,0,0⟩ []) (fP (rT ⟨[⟨⟨#[113]⟩,0,1⟩],[],[]⟩ nL 1 ⟨false,0,0⟩ [⟨cQ,⟨#[120]⟩,[⟨⟨#[113]⟩,0⟩],0,0,26⟩]) 5000 []):=by
   have h1:rT ⟨[⟨⟨#[113]⟩,0,1⟩],[],[]⟩ nL 3 ⟨false,0,0⟩ nL []=rT ⟨[⟨⟨#[113]⟩,0,1⟩],[],[]⟩ nL 2 ⟨false,0,0⟩ [⟨bj,ByteArray.empty,[],5000,1,12⟩,⟨cQ,⟨#[120]⟩,[⟨⟨#[113]⟩,0⟩],0,0,26⟩] []:=rfl
   rw[h1]
   conv=>lhs;unfold rT
   rw[zX rfl]
   rfl
  rw[e3,hr]
  rfl
 unfold dj
 rw[show(⟨[],[],[]⟩:Bk)=j9 from rfl,h1]
 simp only[h2]
end
section
open Go.Ab
attribute [-simp] aX aF
theorem SL{h:AH}{R:AE->AH->Prop}{v:Nat}{q b:Int}{xo:AV}{a e:Int}(ho:h.obj v=some (aN [I q,I b,xo] 3 27))(hR:R (.ret (.dY [.agg [I q,I b,xo],I a,I e])) h):aJ Pg [.cell 2 27,.tmp 3,.tmp 4] R [.ptr v 0,I a,I e] h:=CF ho hR
def Small(rows:List Row):Prop:=rows.length<=100000000/\∀r∈rows,r.args.length<=100000000/\r.num<=9223372036854775807
theorem fO.rt{h:AH}{x:AV}{rows:List Row}(a:fO h x rows)(s:Small rows):∃rs,RT h x rs/\rs.map (·.1)=rows/\∀y∈rs,y.1.num<=9223372036854775807:=by
 obtain⟨l,h1,h2,h3⟩:=a
 have hm:∀y∈l,y.1∈rows:=fun y hy=>by rw[<-h2];exact List.mem_map_of_mem hy
 refine⟨l,⟨h1.cF,fun y hy=>⟨(h3 y hy).cF,(s.2 _ (hm y hy)).1⟩,?_⟩,h2,fun y hy=>(s.2 _ (hm y hy)).2⟩
 have:=congrArg List.length h2
 have:=s.1
 simp only[zZ]at *;omega
section
variable {h:AH} {M:Nat->Prop} {R:AE->AH->Prop}
theorem Cf{s:ByteArray}{rows:List Row}(hp:pY s=.ok rows)(hs:Small rows)(hR:∀xo yl h',yi h' (dj rows) xo yl->Fr h h' (fun _=>False)->R (.ret (.dY [.agg [I (dj rows).q,I (dj rows).b,xo],I (dj rows).at_,I (dj rows).err])) h'):aE Pg 12 [Sb s] h M R:=by
 apply GG.aM
 unfold GG.n6
 have hv:=AH.cm h (aN ([Value.int .i64 0,.int .i64 0,.slice none 0 0].map AV.sc) 3 27)
 rw[aX]
 refine⟨rfl,?_⟩
 have f1:Fr h (h.alloc (aN ([Value.int .i64 0,.int .i64 0,.slice none 0 0].map AV.sc) 3 27)) (fun _=>False):=Fr.refl.alloc _
 generalize h.alloc (aN ([Value.int .i64 0,.int .i64 0,.slice none 0 0].map AV.sc) 3 27)=h1 at *
 obtain⟨v,rM⟩:∃v,v=h.next:=⟨_,rfl⟩
 rw[<-rM]at hv ⊢
 have ov:h1.obj v=some (aN [I 0,I 0,aW] 3 27):=hv
 have qn:∀{h':AH}{x y z:AV},h'.obj v=some (aN [I 0,I 0,aW] 3 27)->(h'.put v 0 [x,y,z]).obj v=some (aN [x,y,z] 3 27):=fun ho=>by rw[cX ho];rfl
 have qu:∀{h':AH}{cs:List AV},Fr h h' (fun _=>False)->Fr h (h'.put v 0 cs) fun _=>False:=fun hf=>hf.put (.inr (by omega))
 unfold GG.n5
 refine⟨fun _=>False,fun _ h=>h.elim,MK ?_⟩
 unfold Gy
 rw[hp]
 ·intro x h2 hx _ f2
  have cw:=f1.bX f2
  have sB:=f2.bM ov
  obtain⟨rs,rt,nR,rN⟩:=hx.rt hs
  have FT:((0:Int) != 0)=false:=rfl
  simp only[dN,zA,zB,ab,GG.n4,b5,FT,GG.n3,aj,zE,zD,zC,zH,GG.n1]
  refine⟨fun _=>False,fun _ h=>h.elim,RO rt rN fun xo yl h3 hf f3=>?_⟩
  rw[nR]at hf ⊢
  have nh:=f3.bM sB
  have KC:=hf.o.fc.one
  simp only[dN,zA,zB,ab,aF,nh,eY,bG]
  refine⟨⟨.inr (by omega),by show(true&&(true&&(cG xo&&true)))=true;rw[KC.1];rfl,rfl,by simp⟩,?_⟩
  have fv:Fr h3 (h3.put v 0 [I (dj rows).q,I (dj rows).b,xo]) (·=v):=Fr.refl.put (.inl rfl)
  refine SL (qn nh) (hR xo yl _ ⟨⟨hf.o.fc.fr fv fun id o ho ht e=>?_,fun y hy=>(hf.o.qs y hy).fr fv fun id o ho ht e=>?_⟩,hf.e,hf.g,hf.n⟩ (qu (cw.bX f3)))
  ·subst e;rw[nh]at ho;cases ho;exact absurd (ht rfl) (show(27:Nat)≠49 by decide)
  ·subst e;rw[nh]at ho;cases ho;exact absurd (ht rfl) (show(27:Nat)≠3 by decide)
theorem Tb:Small su:=⟨by decide,by decide⟩
theorem Ta:Small ki:=⟨by decide,by decide⟩
theorem S_:Small nL:=⟨by decide,by decide⟩
theorem Ot(hR:∀h',Fr h h' (fun _=>False)->R (.ret (B true)) h'):aE Pg 7 [] h M R:=by
 apply F7.aM
 unfold F7.dx F7.cT
 refine⟨fun _=>False,fun _ h=>h.elim,Cf Tp Tb fun iG GU h1 Lh f1=>?_⟩
 rw[W3]at Lh ⊢
 have ZP:=Lh.o.fc.one
 simp only[dN,zA,zB,ab]
 refine g_ (cs:=[I 1,I 3,iG]) (by show(true&&(true&&(cG iG&&true)))=true;rw[ZP.1];rfl) rfl rfl rfl (fun id hid=>.inr (zR f1.next hid)) fun v1 h2 f2 _ o1=>?_
 have cw:=f1.bX f2
 unfold F7.da
 refine⟨fun _=>False,fun _ h=>h.elim,Cf To Ta fun lU Jp h3 Yx f3=>?_⟩
 rw[W2]at Yx ⊢
 have ZO:=Yx.o.fc.one
 have dR:=cw.bX f3
 simp only[dN,zA,zB,ab]
 refine g_ (cs:=[I 0,I 0,lU]) (by show(true&&(true&&(cG lU&&true)))=true;rw[ZO.1];rfl) rfl rfl rfl (fun id hid=>.inr (zR dR.next hid)) fun v2 h4 f4 _ o2=>?_
 have iT:=dR.bX f4
 unfold F7.cK
 refine⟨fun _=>False,fun _ h=>h.elim,Cf Tn S_ fun Jr Pa h5 Yw f5=>?_⟩
 rw[W1]at Yw ⊢
 have ZN:=Yw.o.fc.one
 have qM:=iT.bX f5
 simp only[dN,zA,zB,ab]
 refine g_ (cs:=[I 0,I 0,Jr]) (by show(true&&(true&&(cG Jr&&true)))=true;rw[ZN.1];rfl) rfl rfl rfl (fun id hid=>.inr (zR qM.next hid)) fun v3 h6 f6 _ o3=>?_
 have nV:=qM.bX f6
 have f26:=((f3.bX f4).bX f5).bX f6
 have Pv:=f26.bM o1
 have fo:=Lh.o.aU (f2.bX f26)
 obtain⟨ya,yb,hy⟩:∃ya yb,GU=[ya,yb]:=by
  have:=congrArg List.length Lh.e
  simp only[zZ,List.length_cons,List.length_nil]at this
  match GU,this with
  |[a,b],_=>exact⟨a,b,rfl⟩
 subst hy
 have he:=Lh.e
 simp only[List.map_cons,List.map_nil,List.cons.injEq,zI]at he
 obtain⟨hea,UZ⟩:=he
 have ha:fo.fc=fo.fc:=rfl
 have fin:=hR h6 nV
 have ga:([ya,yb]:List (dS×AV))[0]?=some ya:=rfl
 have gb:([ya,yb]:List (dS×AV))[1]?=some yb:=rfl
 simp only[F7.cz,F7.cy,ck,zT,zE,zD,zC,zI,b5,show((0:Int) != 0)=false from rfl,F7.bV,bu,if_false,F7.cl,F7.cj,F7.cn,show((114:Int) != 114)=false from rfl,F7.cb,F7.bW,show((11:Int) != 11)=false from rfl,F7.cp,F7.b_,show((115:Int) != 115)=false from rfl,F7.bQ,F7.bO,show((26:Int) != 26)=false from rfl,F7.bH,F7.bz,aj,zH,F7.bD,ag,au,Pv,ao,zG,zA,zB,ab,eG,show((1:Int)==1)=true from rfl,F7.bt,zS,zF,show((3:Int)==3)=true from rfl,F7.bc,zV,F7.a_,fo.fc.len.1,fo.fc.len.2,List.length_cons,List.length_nil,show(((0+1+1:Nat):Int)==2)=true from rfl,F7.aQ,F7.n9]
 refine dn (i:=0) (k:=3) fo.fc eW ga (by omega) rfl fun _=>?_
 rw[hea]
 simp only[eG,show((2:Int)==2)=true from rfl,F7.n8,bu,zV,F7.n7,ck,zS,zD,zF,zC,zI,ag,au,Pv,ao,zG,zA,zB,ab]
 refine dn (i:=1) (k:=4) fo.fc eW gb (by omega) rfl fun _=>?_
 rw[UZ]
 have FZ:∀{t:TypeId}{c:Bool}{x y:Int}{K:AV->Prop},ah Pg .eql t c (U x) (U y) K=K (B (x==y)):=fun{t c x y K}=>by simp[ah]
 simp only[F7.n6,bu,zV,F7.n5,ck,zS,zD,zF,zC,zI,ag,au,Pv,ao,zG,zA,zB,ab]
 refine dn (i:=1) (k:=5) fo.fc eW gb (by omega) rfl fun _=>?_
 rw[UZ]
 simp only[FZ,show((4:Int)==4)=true from rfl,F7.n4,bu,zV,F7.n3,ck,zS,zD,zF,zC,zI,ag,au,Pv,ao,zG,zA,zB,ab]
 refine dn (i:=1) (k:=6) fo.fc eW gb (by omega) rfl fun _=>?_
 rw[UZ]
 simp only[FZ,show((4:Int)==4)=true from rfl,F7.n2,bu,zV,F7.n1]
 simpa using fin
end
end
end Go.Proofs.Ytjehibknlmehmaa
