/- The document writes out what the plain form says. No condition. -/
import Derived.Test.YtjehibknlmehmaaHa
set_option maxRecDepth 100000
namespace Go.Proofs.Ytjehibknlmehmaa
open Go.Ab
attribute [-simp] eAlloc_d eStore_f
def TR (t:TypeId):Bool:=t==54||t==49||t==3
structure RW (n0:Nat) (h:AH) (b:Nat) (xr:AV) (bk:Bk) (xq xb xd:AV) (yl:List (Dfn×AV)) (l:OL) (pl er:Int) (many:Bool) (xo xp:AV):Prop where
 n:n0<=b/\InS (n0<=·) xo/\InS (n0<=·) xp
 b:h.obj b=some (oBk xr xq xb xd pl er many xo xp)
 q:SlL encRg 3 85 h xq bk.qs
 s:SlL encRg 3 85 h xb bk.bs
 d:DT h xd bk.ds yl
 x:SlL encI 1 3 h xp (l.map (·.2))
 o:∃ ol:List (COp×AV),SlL encO 7 49 h xo ol/\ol.map (·.1)=l.map (·.1)/\∀ y∈ol,SlR encI 1 3 h y.2 y.1.qubits/\Sep xp y.2
 len:l.length<=4096
def SW (b:Nat) (xo xp:AV) (id:Nat):Prop:=id=b\/(∃ off n,xo=.sl id off n)\/∃ off n,xp=.sl id off n
theorem SW.trans {h h1 h2:AH} {b:Nat} {xo xp xo1 xp1:AV} (f1:Fr h h1 (SW b xo xp)) (hn:∀ id,SW b xo1 xp1 id->SW b xo xp id\/h.next<=id) (f2:Fr h1 h2 (SW b xo1 xp1)):Fr h h2 (SW b xo xp):=f1.trans (f2.mono hn)
theorem SW.of_fr {h h1:AH} {b:Nat} {xo xp:AV} (f:Fr h h1 fun _=>False):Fr h h1 (SW b xo xp):=f.mono fun _ h=>h.elim
def WP (n0:Nat) (xr:AV) (bk:Bk) (xq xb xd:AV) (yl:List (Dfn×AV)) (b:Nat) (h0:AH) (xo0 xp0:AV) (h:AH) (res:Except Int OL):Prop:=
 match res with
 | .ok l=>∃ xo xp,RW n0 h b xr bk xq xb xd yl l 0 0 false xo xp/\∀ id,SW b xo xp id->SW b xo0 xp0 id\/h0.next<=id
 | .error e=>∃ l xo xp,RW n0 h b xr bk xq xb xd yl l e 115 true xo xp
section
variable {n0:Nat} {h h':AH} {b:Nat} {xr:AV} {bk:Bk} {xq xb xd:AV} {yl:List (Dfn×AV)} {l:OL} {pl er:Int} {many:Bool} {xo xp:AV}
theorem RW.fr0 (a:RW n0 h b xr bk xq xb xd yl l pl er many xo xp) (f:Fr h h' fun _=>False):RW n0 h' b xr bk xq xb xd yl l pl er many xo xp:=by
 obtain ⟨ol,o1,o2,o3⟩:=a.o
 exact ⟨a.n,f.ob0 a.b,a.q.of_fr f fun _ _ h=>h,a.s.of_fr f fun _ _ h=>h,a.d.fr0 f,a.x.of_fr f fun _ _ h=>h,⟨ol,o1.of_fr f fun _ _ h=>h,o2,fun y hy=>⟨(o3 y hy).1.fr0 f,(o3 y hy).2⟩⟩,a.len⟩
theorem RT.frR {rs:List (Row×AV)} (a:RT h xr rs) (f:Fr h h' (TW TR n0 h)):RT h' xr rs:=⟨a.r.frT f rfl,fun y hy=>⟨(a.a y hy).1.frT f rfl,(a.a y hy).2⟩,a.n⟩
theorem RW.opsLen (a:RW n0 h b xr bk xq xb xd yl l pl er many xo xp):strArg xo=false/\∀ K:AV->Prop,pLen xo K=K (I l.length):=by
 obtain ⟨ol,o1,o2,_⟩:=a.o
 have hyl:ol.length=l.length:=by have:=congrArg List.length o2;simpa using this
 rw [<-hyl]
 exact o1.toR.len
theorem RW.sw (a:RW n0 h b xr bk xq xb xd yl l pl er many xo xp) {id:Nat} (hs:SW b xo xp id):TW TR n0 h id:=by
 rcases hs with rfl | ⟨off,n,e⟩ | ⟨off,n,e⟩
 ·exact ⟨a.n.1,_,a.b,rfl,rfl⟩
 ·obtain ⟨ol,o1,_⟩:=a.o
  rcases o1 with ⟨e1,_⟩ | ⟨j,e1,ho⟩
  ·rw [e1] at e;cases e
  ·rw [e1] at e;cases e
   exact ⟨a.n.2.1 _ _ _ e1,_,ho,rfl,rfl⟩
 ·rcases a.x with ⟨e1,_⟩ | ⟨j,e1,ho⟩
  ·rw [e1] at e;cases e
  ·rw [e1] at e;cases e
   exact ⟨a.n.2.2 _ _ _ e1,_,ho,rfl,rfl⟩
theorem RW.tw (a:RW n0 h b xr bk xq xb xd yl l pl er many xo xp) (f:Fr h h' (SW b xo xp)):Fr h h' (TW TR n0 h):=f.mono fun _ hs=>a.sw hs
theorem RW.keep (a:RW n0 h b xr bk xq xb xd yl l pl er many xo xp) (f:Fr h h' (SW b xo xp)) {z:AV} {zl:List Int} (hz:SlR encI 1 3 h z zl) (hs:Sep xp z):SlR encI 1 3 h' z zl/\∀ xo' xp',(∀ id,SW b xo' xp' id->SW b xo xp id\/h.next<=id)->Sep xp' z:=by
 have no:∀ id off n,z=.sl id off n->∀ o,h.obj id=some o->(o.ro=false->o.ty=3)->¬ SW b xo xp id:=fun id off n e o ho ht hsw=>by
  rcases hsw with rfl | ⟨off',n',e'⟩ | ⟨off',n',e'⟩
  ·rw [a.b] at ho;cases ho
   exact absurd (ht rfl) (show (54:Nat)≠3 by decide)
  ·obtain ⟨ol,o1,_⟩:=a.o
   rcases o1 with ⟨e1,_⟩ | ⟨j,e1,hj⟩
   ·rw [e1] at e';cases e'
   ·rw [e1] at e';cases e'
    rw [hj] at ho;cases ho
    exact absurd (ht rfl) (show (49:Nat)≠3 by decide)
  ·exact hs _ _ _ _ _ e' e
 rcases hz with ⟨rfl,rfl⟩ | ⟨x,c,rfl,rfl⟩ | ⟨id,rest,ro,ty',rfl,ht,ho⟩
 ·exact ⟨.inl ⟨rfl,rfl⟩,fun _ _ _ _ _ _ _ _ _ e=>by cases e⟩
 ·exact ⟨.inr (.inl ⟨x,c,rfl,rfl⟩),fun _ _ _ _ _ _ _ _ _ e=>by cases e⟩
 ·have hno:=no id 0 _ rfl _ ho ht
  refine ⟨.inr (.inr ⟨id,rest,ro,ty',rfl,ht,f.obj ho hno⟩),fun xo' xp' hn i off n off' n' e1 e2=>?_⟩
  cases e2
  rcases hn id (.inr (.inr ⟨_,_,e1⟩)) with h1 | h1
  ·exact hno h1
  ·have:=h.lt _ _ ho
   omega
theorem RW.setB (a:RW n0 h b xr bk xq xb xd yl l pl er many xo xp) {off:Nat} {v:AV} {pl' er':Int} {many':Bool} (hv:(oBk xr xq xb xd pl er many xo xp).cells.set off v=(oBk xr xq xb xd pl' er' many' xo xp).cells):RW n0 (h.put b off [v]) b xr bk xq xb xd yl l pl' er' many' xo xp/\Fr h (h.put b off [v]) (SW b xo xp):=by
 have f:Fr h (h.put b off [v]) (·=b):=Fr.refl.put (.inl rfl)
 have o:=put_mk (off:=off) (cs:=[v]) a.b
 generalize h.put b off [v]=h1 at *
 have g:Fr h h1 (SW b xo xp):=f.mono fun _ e=>.inl e
 have ne:∀ {j:Nat} {o:AO},h.obj j=some o->o.ty≠54->¬ j=b:=fun ho ht e=>by subst e;rw [a.b] at ho;cases ho;exact ht rfl
 obtain ⟨ol,o1,o2,o3⟩:=a.o
 refine ⟨⟨a.n,?_,slL_frO a.q f fun _ _ ho ht _=>ne ho (by rw [ht];decide),slL_frO a.s f fun _ _ ho ht _=>ne ho (by rw [ht];decide),a.d.frO f fun _ _ ho ht=>ne ho (by rcases ht with e | e <;> rw [e] <;> decide),slL_frO a.x f fun _ _ ho ht _=>ne ho (by rw [ht];decide),
  ⟨ol,slL_frO o1 f fun _ _ ho ht _=>ne ho (by rw [ht];decide),o2,fun y hy=>⟨(o3 y hy).1.fr f fun id o ho ht e=>?_,(o3 y hy).2⟩⟩,a.len⟩,g⟩
 ·rw [o]
  simp only [mkO] at hv
  simp only [putCells,hv]
 ·subst e
  have hb:=a.b
  rw [ho] at hb;cases hb
  exact absurd (ht rfl) (show (54:Nat)≠3 by decide)
end
section
variable {h:AH} {M:Nat->Prop} {R:AE->AH->Prop} {n0 b:Nat} {xr xo xp xf:AV} {bk:Bk} {xq xb xd:AV} {yl:List (Dfn×AV)} {l:OL} {place:Int} {o:COp}
theorem putR_ok (rw:RW n0 h b xr bk xq xb xd yl l 0 0 false xo xp) (hq:SlR encI 1 3 h xf o.qubits) (sep:Sep xp xf) (hM:∀ id,SW b xo xp id->M id)
  (hR:∀ h',WP n0 xr bk xq xb xd yl b h xo xp h' (putP l o place)->Fr h h' (SW b xo xp)->R (.ret (.tup [])) h') :
  ACalls Try.prog 34 [.ptr b 0,.agg (encO (o,xf)),I place] h M R:=by
 apply F34.callsN
 unfold F34.n9
 refine box_var (encO_one hq.one.1) fun vo h1 f1 hvo oo=>?_
 have rw1:=rw.fr0 f1
 have hq1:=hq.fr0 f1
 have mb:M b:=hM b (.inl rfl)
 unfold putP at hR
 simp only [F34.n8,pNil_ptr,pFld_ptr,lLd_f,rw1.b,ldk_mk,zG,zA,zB,cellK_some,F34.n7,aIf_b,zE,zD,zC,zH,F34.n6,rw1.opsLen.1,rw1.opsLen.2,pBin_eql]
 by_cases k1:l.length=4096
 ·rw [zX k1] at hR
  have k1':((l.length:Int)==4096)=true:=by rw [k1];rfl
  simp only [k1',F34.n5,aIf_b,zD,zF,zC,zI,F34.n4,pNil_ptr,pFld_ptr,eStore_f,rw1.b,avC_bool,stk_mk,zG]
  refine ⟨⟨.inl mb,rfl,rfl,by simp⟩,?_⟩
  obtain ⟨rw2,f2⟩:=rw1.setB (off:=6) (v:=B true) (pl':=0) (er':=0) (many':=true) rfl
  generalize h1.put b 6 [B true]=h2 at *
  simp only [F34.n3,pNil_ptr,pFld_ptr,eStore_f,rw2.b,avC_int,stk_mk,zG]
  refine ⟨⟨.inl mb,rfl,rfl,by simp⟩,?_⟩
  obtain ⟨rw3,f3⟩:=rw2.setB (off:=4) (v:=I place) (pl':=place) (er':=0) (many':=true) rfl
  generalize h2.put b 4 [I place]=h3 at *
  simp only [rw3.b,avC_int,stk_mk]
  refine ⟨⟨.inl mb,rfl,rfl,by simp⟩,?_⟩
  obtain ⟨rw4,f4⟩:=rw3.setB (off:=5) (v:=I 115) (pl':=place) (er':=115) (many':=true) rfl
  generalize h3.put b 5 [I 115]=h4 at *
  exact hR h4 ⟨l,xo,xp,rw4⟩ (SW.trans (SW.of_fr f1) (fun _ h=>.inl h) (SW.trans f2 (fun _ h=>.inl h) (SW.trans f3 (fun _ h=>.inl h) f4)))
 ·rw [zW k1] at hR
  have k1':((l.length:Int)==4096)=false:=by
   have:¬ (l.length:Int)=4096:=by omega
   simpa using this
  obtain ⟨ol,o1,o2,o3⟩:=rw1.o
  have hyl:ol.length=l.length:=by have:=congrArg List.length o2;simpa using this
  have hlen:=rw.len
  simp only [k1',F34.n5,aIf_b,zE,zD,zC,zH,F34.n2,pNil_ptr,pFld_ptr,lLd_f,rw1.b,ldk_mk,zG,zA,zB,cellK_some]
  refine var_ld oo rfl fun _=>?_
  refine appv (f:=encO) (t:=(o,xf)) encO_len (by omega) rfl (by omega) rfl (encO_one hq.one.1) o1 ?_ (by omega) fun y h6 hy hys f6=>?_
  ·intro id off n e
   rcases o1 with ⟨e1,_⟩ | ⟨j,e1,ho⟩
   ·rw [e1] at e;cases e
   ·rw [e1] at e;cases e
    exact .inl (hM _ (.inr (.inl ⟨_,_,e1⟩)))
  ·have oy:[y].all oneA=true:=by show (oneA y&&true)=true;rw [hy.toR.one.1];rfl
   have b6:=f6.obj rw1.b (sl_ne o1 rw1.b (show (54:Nat)≠49 by decide))
   have g6:Fr h h6 (TW TR n0 h):=by
    refine TW.trans (TW.of_fr f1) (f6.mono fun i ⟨off,n,e⟩=>?_)
    rcases o1 with ⟨e1,_⟩ | ⟨j,e1,ho⟩
    ·rw [e1] at e;cases e
    ·rw [e1] at e;cases e
     exact ⟨rw.n.2.1 _ _ _ e1,_,ho,rfl,rfl⟩
   have no:∀ {id:Nat} {p:AO},h1.obj id=some p->p.ty≠49->¬ ∃ off n,xo=.sl id off n:=fun ho ht=>sl_ne o1 ho ht
   have x6:=slL_frO rw1.x f6 fun _ _ ho ht _=>no ho (by rw [ht];decide)
   have qq6:=slL_frO rw1.q f6 fun _ _ ho ht _=>no ho (by rw [ht];decide)
   have ss6:=slL_frO rw1.s f6 fun _ _ ho ht _=>no ho (by rw [ht];decide)
   have dd6:=rw1.d.frO f6 fun _ _ ho ht=>no ho (by rcases ht with e | e <;> rw [e] <;> decide)
   have q6:∀ {z:AV} {zl:List Int},SlR encI 1 3 h1 z zl->SlR encI 1 3 h6 z zl:=fun hz=>hz.fr f6 fun id o ho ht ⟨off,n,e⟩=>by
    rcases o1 with ⟨e1,_⟩ | ⟨j,e1,hj⟩
    ·rw [e1] at e;cases e
    ·rw [e1] at e;cases e
     rw [hj] at ho;cases ho
     exact absurd (ht rfl) (show (49:Nat)≠3 by decide)
   simp only [pNil_ptr,pFld_ptr,eStore_f,b6,hy.toR.one.2,stk_mk,zG]
   refine ⟨⟨.inl mb,oy,rfl,by simp⟩,?_⟩
   have f7:Fr h6 (h6.put b 7 [y]) (·=b):=Fr.refl.put (.inl rfl)
   have b7:=put_mk (off:=7) (cs:=[y]) b6
   generalize h6.put b 7 [y]=h7 at *
   have g7:=TW.trans g6 (TW.of_one (T:=TR) f7 rw.n.1 b6 rfl rfl)
   have nb:∀ {j:Nat} {o:AO},h6.obj j=some o->o.ty≠54->¬ j=b:=fun ho ht e=>by subst e;rw [b6] at ho;cases ho;exact ht rfl
   have x7:=slL_frO x6 f7 fun _ _ ho ht _=>nb ho (by rw [ht];decide)
   have qq7:=slL_frO qq6 f7 fun _ _ ho ht _=>nb ho (by rw [ht];decide)
   have ss7:=slL_frO ss6 f7 fun _ _ ho ht _=>nb ho (by rw [ht];decide)
   have dd7:=dd6.frO f7 fun _ _ ho ht=>nb ho (by rcases ht with e | e <;> rw [e] <;> decide)
   have y7:=slL_frO hy f7 fun _ _ ho ht _=>nb ho (by rw [ht];decide)
   have q7:∀ {z:AV} {zl:List Int},SlR encI 1 3 h6 z zl->SlR encI 1 3 h7 z zl:=fun hz=>hz.fr f7 fun id o ho ht e=>by
    subst e
    rw [b6] at ho;cases ho
    exact absurd (ht rfl) (show (54:Nat)≠3 by decide)
   simp only [F34.n1,pNil_ptr,pFld_ptr,lLd_f,b7,putCells,List.set_cons_zero,List.set_cons_succ,ldk_mk,zG,zA,zB,cellK_some]
   refine appv (f:=encI) (t:=place) encI_len (by omega) rfl (by omega) rfl rfl x7 ?_ (by simp only [zZ];omega) fun z h8 hz hzs f8=>?_
   ·intro id off n e
    rcases x7 with ⟨e1,_⟩ | ⟨j,e1,ho⟩
    ·rw [e1] at e;cases e
    ·rw [e1] at e;cases e
     exact .inl (hM _ (.inr (.inr ⟨_,_,e1⟩)))
   ·have oz:[z].all oneA=true:=by show (oneA z&&true)=true;rw [hz.toR.one.1];rfl
    have b8:=f8.obj b7 (sl_ne x7 b7 (show (54:Nat)≠3 by decide))
    have g8:Fr h h8 (TW TR n0 h):=by
     refine TW.trans g7 (f8.mono fun i ⟨off,n,e⟩=>?_)
     rcases x7 with ⟨e1,_⟩ | ⟨j,e1,ho⟩
     ·rw [e1] at e;cases e
     ·rw [e1] at e;cases e
      exact ⟨rw.n.2.2 _ _ _ e1,_,ho,rfl,rfl⟩
    have nx:∀ {id:Nat} {p:AO},h7.obj id=some p->p.ty≠3->¬ ∃ off n,xp=.sl id off n:=fun ho ht=>sl_ne x7 ho ht
    have qq8:=slL_frO qq7 f8 fun _ _ ho ht _=>nx ho (by rw [ht];decide)
    have ss8:=slL_frO ss7 f8 fun _ _ ho ht _=>nx ho (by rw [ht];decide)
    have dd8:=dd7.frO f8 fun _ _ ho ht=>nx ho (by rcases ht with e | e <;> rw [e] <;> decide)
    have y8:=slL_frO y7 f8 fun _ _ ho ht _=>nx ho (by rw [ht];decide)
    simp only [pNil_ptr,pFld_ptr,eStore_f,b8,hz.toR.one.2,stk_mk,zG]
    refine ⟨⟨.inl mb,oz,rfl,by simp⟩,?_⟩
    have f9:Fr h8 (h8.put b 8 [z]) (·=b):=Fr.refl.put (.inl rfl)
    have b9:=put_mk (off:=8) (cs:=[z]) b8
    generalize h8.put b 8 [z]=h9 at *
    have g9:=TW.trans g8 (TW.of_one (T:=TR) f9 rw.n.1 b8 rfl rfl)
    have nb9:∀ {j:Nat} {o:AO},h8.obj j=some o->o.ty≠54->¬ j=b:=fun ho ht e=>by subst e;rw [b8] at ho;cases ho;exact ht rfl
    have q9:∀ {z:AV} {zl:List Int},SlR encI 1 3 h8 z zl->SlR encI 1 3 h9 z zl:=fun hz=>hz.fr f9 fun id o ho ht e=>by
     subst e
     rw [b8] at ho;cases ho
     exact absurd (ht rfl) (show (54:Nat)≠3 by decide)
    have qall:∀ {v:AV} {zl:List Int},SlR encI 1 3 h1 v zl->Sep xp v->SlR encI 1 3 h9 v zl/\Sep z v:=fun {v zl} hv hs=>by
     have h7':SlR encI 1 3 h7 v zl:=q7 (q6 hv)
     exact ⟨q9 (sepF h7' f8 hs),sep_new hzs h7'⟩
    have lt:∀ {a b:AH} {S:Nat->Prop},Fr a b S->∀ {x:AV},InS (b.next<=·) x->InS (a.next<=·) x:=fun f x hx id off n e=>zR f.next (hx _ _ _ e)
    have s6:Fr h h6 (SW b xo xp):=(SW.of_fr f1).trans (f6.mono fun _ e=>.inl (.inr (.inl e)))
    have s7:Fr h h7 (SW b xo xp):=s6.trans (f7.mono fun _ e=>.inl (.inl e))
    have s8:Fr h h8 (SW b xo xp):=s7.trans (f8.mono fun _ e=>.inl (.inr (.inr e)))
    have s9:Fr h h9 (SW b xo xp):=s8.trans (f9.mono fun _ e=>.inl (.inl e))
    refine hR h9 ⟨y,z,⟨⟨rw.n.1,fun id off n e=>?_,fun id off n e=>?_⟩,?_,?_,?_,?_,?_,⟨ol++[(o,xf)],?_,by simp [o2],fun v hv=>?_⟩,by simp only [List.length_append,List.length_singleton];omega⟩,fun id hid=>hid.elim (fun e=>.inl (.inl e)) fun hid=>.inr (hid.elim (fun ⟨off,n,e⟩=>lt (TW.of_fr (T:=TR) (n0:=n0) f1) hys _ _ _ e) fun ⟨off,n,e⟩=>lt g7 hzs _ _ _ e)⟩ s9
    ·have h1:=lt (TW.of_fr (T:=TR) (n0:=n0) f1) hys _ _ _ e
     have h2:=h.lt _ _ rw.b
     have h3:=rw.n.1
     omega
    ·have h1:=lt g7 hzs _ _ _ e
     have h2:=h.lt _ _ rw.b
     have h3:=rw.n.1
     omega
    ·simpa [putCells] using b9
    ·exact slL_frO qq8 f9 fun _ _ ho ht _=>nb9 ho (by rw [ht];decide)
    ·exact slL_frO ss8 f9 fun _ _ ho ht _=>nb9 ho (by rw [ht];decide)
    ·exact dd8.frO f9 fun _ _ ho ht=>nb9 ho (by rcases ht with e | e <;> rw [e] <;> decide)
    ·have:=slL_frO hz f9 fun _ _ ho ht _=>nb9 ho (by rw [ht];decide)
     simpa using this
    ·exact slL_frO y8 f9 fun _ _ ho ht _=>nb9 ho (by rw [ht];decide)
    ·rcases List.mem_append.1 hv with hv | hv
     ·exact qall (o3 v hv).1 (o3 v hv).2
     ·have:=List.mem_singleton.1 hv
      subst this
      exact qall hq1 sep
theorem numberR_ok {x0 x2:AV} {rl:List Reg} {a:Arg} (hx:SlR encRg 3 85 h x2 rl) (hl:rl.length<=100000000) (hs:∀ r∈rl,1<=r.size/\0<=r.from_/\r.from_+r.size<=totalR rl) (ht:totalR rl<=64) (hat:atP rl a=0)
  (hR:∀ h',Fr h h' (fun _=>False)->R (.ret (I (locP rl a))) h'):ACalls Try.prog 32 [x0,.agg a.enc,x2] h M R:=by
 apply F32.callsN
 unfold F32.n3
 refine box_var (cs:=a.enc) (Arg.enc_one a) fun va h1 f1 _ oa=>?_
 obtain ⟨g,hg,w1⟩:=locP_bd hs ht hat
 unfold F32.n2
 refine ⟨fun _=>va,fun _ _=>by rw [oa];simp,?_⟩
 simp only [pFld_ptr,lLd_f,oa,ldk_mk,zG,Arg.enc,zA,zB,cellK_some,zH]
 refine ⟨fun _=>False,fun _ h=>h.elim,find_ok (hx.fr0 f1) hl ?_ ?_⟩
 ·intro hn;rw [hg] at hn;cases hn
 ·intro i g' hi hg'
  rw [hg] at hg';cases hg'
  refine rng_fld (k:=1) (hx.fr0 f1) encRg_len hi (by omega) rfl fun _=>?_
  simp only [pBin_add,w1,F32.n1]
  simpa using hR h1 f1
end
end Go.Proofs.Ytjehibknlmehmaa
namespace Go.Proofs.Ytjehibknlmehmaa
open Go.Ab
attribute [-simp] eAlloc_d eStore_f
abbrev op0 (w:Wsh):COp:=⟨0,ByteArray.empty,[],0,w.is,w.mask,w.value⟩
abbrev encW0 (w:Wsh):List AV:=encO (op0 w,nilS)
def InsS (n0 b:Nat) (xr:AV) (bk:Bk) (xq xb xd:AV) (yl:List (Dfn×AV)) (rs:List (Row×AV)) (k n:Nat):Prop:=
 ∀ (h:AH) (M:Nat->Prop) (R:AE->AH->Prop) (a:Nat) (d:Dfn) (xpd:AV) (qs:List Int) (xz:AV) (w:Wsh) (pl:Int) (xo xp:AV) (l:OL),bk.ds[k]?=some d->RW n0 h b xr bk xq xb xd yl l 0 0 false xo xp->RT h xr rs->a+n<=rs.length ->
  SlL encS 1 9 h xpd d.params->SlR encI 1 3 h xz qs->Sep xp xz->qs.length=d.params.length->GB bk k d.params (sg rs a n)->(∀ id,SW b xo xp id->M id) ->
  (∀ h',WP n0 xr bk xq xb xd yl b h xo xp h' (bodyP bk (rs.map (·.1)) k (d.params.zip qs) w pl (sg rs a n) l)->Fr h h' (SW b xo xp)->R (.ret (.tup [])) h') ->
  ACalls Try.prog 55 [.ptr b 0,.agg (encD (d,xpd)),I a,I (a+n),xz,.agg (encW0 w),I pl] h M R
def NameR (bk:Bk) (k:Nat) (nm:ByteArray) (n:Nat):Prop:=(dfnOf bk.ds nm=none/\0 < arityT nm)\/∃ j d,j < k/\bk.ds[j]?=some d/\d.name=nm/\n=d.params.length/\arityT nm=0
def GateS (n0 b:Nat) (xr:AV) (bk:Bk) (xq xb xd:AV) (yl:List (Dfn×AV)) (rs:List (Row×AV)) (k:Nat):Prop:=
 ∀ (h:AH) (M:Nat->Prop) (R:AE->AH->Prop) (nm:ByteArray) (qs:List Int) (xz:AV) (w:Wsh) (pl:Int) (xo xp:AV) (l:OL),RW n0 h b xr bk xq xb xd yl l 0 0 false xo xp->RT h xr rs ->
  SlR encI 1 3 h xz qs->Sep xp xz->NameR bk k nm qs.length->(∀ id,SW b xo xp id->M id) ->
  (∀ h',WP n0 xr bk xq xb xd yl b h xo xp h' (applyP bk (rs.map (·.1)) k nm qs w pl l)->Fr h h' (SW b xo xp)->R (.ret (.tup [])) h') ->
  ACalls Try.prog 33 [.ptr b 0,Sb nm,xz,.agg (encW0 w),I pl] h M R
theorem GB.use_args {bk:Bk} {k:Nat} {ps:List ByteArray} {r:Row} {l:List Row} (h:GB bk k ps (r::l)) (hk:r.kind≠sRepeat):r.kind=sUse/\∀ a∈r.args,memB a.name ps=true:=by
 cases h with
 | use h0 h1 h2 h3 h4=>exact ⟨h0,h3⟩
 | rep h0 h1 h2 h3=>exact absurd h0 hk
theorem bnd_zip {n:ByteArray}:∀ {ps:List ByteArray} {qs:List Int} {i j:Nat},idxN n ps i=some (i+j)->ps.length=qs.length->qs[j]?=some (bndP (ps.zip qs) n)
 | [],qs,i,j,h,_=>by cases h
 | p::ps,[],i,j,h,hl=>by simp at hl
 | p::ps,q::qs,i,j,h,hl=>by
  simp only [idxN] at h
  unfold bndP
  simp only [List.zip_cons_cons,List.find?_cons]
  by_cases e:n=p
  ·rw [zX e] at h
   have:j=0:=by have:=Option.some.inj h;omega
   subst this
   rw [zL e.symm];rfl
  ·rw [zW e] at h
   rw [zK (fun h=>e h.symm)]
   have h1:=(idxN_some h).1
   obtain ⟨m,hm⟩:∃ m,j=m+1:=⟨j - 1,by omega⟩
   subst hm
   have ih:=bnd_zip (n:=n) (ps:=ps) (qs:=qs) (i:=i+1) (j:=m) (by rw [h];congr 1;omega) (by simpa using hl)
   unfold bndP at ih
   simpa using ih
section
variable {n0 b:Nat} {xr:AV} {bk:Bk} {xq xb xd:AV} {yl:List (Dfn×AV)} {rs:List (Row×AV)} {k:Nat}
theorem gateS_of (sc:SC bk rs) (hdl:bk.ds.length<=100000000) (hB:∀ j n,j < k->InsS n0 b xr bk xq xb xd yl rs j n):GateS n0 b xr bk xq xb xd yl rs k:=by
 intro h M R nm qs xz w pl xo xp l rw rt hq sep hname hM hR
 apply F33.callsN
 unfold F33.n10
 refine box_var rfl fun vo h1 f1 hvo oo=>?_
 have rw1:=rw.fr0 f1
 have hq1:=hq.fr0 f1
 simp only [F33.n9]
 refine ⟨fun _=>False,fun _ h=>h.elim,refArity_ok ?_⟩
 simp only [pBin_gtr,gt_iff_lt]
 rcases hname with ⟨hname,har⟩ | ⟨j,d,hj,hd,hdn,hlen,har⟩
 ·rw [applyP_none hname] at hR
  simp only [zL har,F33.n8,aIf_b,zD,zF,zC,zI,F33.n7,pFld_ptr,eStore_f,oo,avC_int,stk_mk,zG]
  refine ⟨⟨.inr hvo,rfl,rfl,by simp [encO]⟩,?_⟩
  have f2:Fr h (h1.put vo 0 [I 1]) fun _=>False:=f1.put (.inr hvo)
  have o2:=put_mk (off:=0) (cs:=[I 1]) oo
  generalize h1.put vo 0 [I 1]=h2 at *
  simp only [F33.n6,pFld_ptr,eStore_f,o2,avC_str,stk_mk,zG]
  refine ⟨⟨.inr hvo,rfl,rfl,by simp [encO]⟩,?_⟩
  have f3:Fr h (h2.put vo 1 [Sb nm]) fun _=>False:=f2.put (.inr hvo)
  have o3:=put_mk (off:=1) (cs:=[Sb nm]) o2
  generalize h2.put vo 1 [Sb nm]=h3 at *
  simp only [F33.n5,pFld_ptr,eStore_f,o3,hq1.one.2,stk_mk,zG]
  refine ⟨⟨.inr hvo,by show (oneA xz&&true)=true;rw [hq1.one.1];rfl,rfl,by simp [encO]⟩,?_⟩
  have f4:Fr h (h3.put vo 2 [xz]) fun _=>False:=f3.put (.inr hvo)
  have o4:=put_mk (off:=2) (cs:=[xz]) o3
  generalize h3.put vo 2 [xz]=h4 at *
  simp only [F33.n4]
  refine var_ld o4 rfl fun _=>?_
  refine ⟨SW b xo xp,fun id hs _=>.inl (hM id hs),putR_ok (o:=mkOp 1 nm qs 0 w) (xf:=xz) (rw.fr0 f4) (hq.fr0 f4) sep (fun _ h=>h) fun h5 hw f5=>?_⟩
  have fin:=hR h5 ?_ (SW.trans (SW.of_fr f4) (fun _ h=>.inl h) f5)
  ·simpa [retV,aResV,tupOf] using fin
  ·cases hres:putP l (mkOp 1 nm qs 0 w) pl with
   | ok l'=>
    rw [hres] at hw
    obtain ⟨xo',xp',h1',h2'⟩:=hw
    exact ⟨xo',xp',h1',fun id hid=>(h2' id hid).imp (fun h=>h) (zR f4.next)⟩
   | error e=>rw [hres] at hw;exact hw
 ·subst hdn
  have har':¬ 0 < arityT d.name:=by omega
  rw [applyP_some sc.bf.i hd hj] at hR
  obtain ⟨x,hyj,hpx⟩:=rw1.d.at_ hd
  obtain ⟨a,n,ha,hn,han,hgb⟩:=sc.dk j d hd
  have hbo:bodyOf (rs.map (·.1)) d=sg rs a n:=by
   unfold bodyOf
   rw [ha,hn,sgR_sg]
   congr 1
   omega
  rw [hbo] at hR
  have hob:=(sc.bf.i.ok.ds d (zP hd)).2.2.2
  have follow:∀ vd h2,Fr h1 h2 (fun _=>False)->h2.obj vd=some (mkO (encD (d,x)) 7 78)->F33.n2 (fun id=>M id\/h.next<=id) (retV Try.prog [] R) (retV Try.prog [] R) (fun _ _ _=>False) (fun v h=>R (.pan v) h) (.ptr b 0) xz (I pl) (.ptr vo 0) (.ptr vd 0) h2:=fun vd h2 f2 ov=>by
   have f02:=f1.tr0 f2
   simp only [F33.n2,pFld_ptr,lLd_f,ov,ldk_mk,zG,encD,zA,zB,cellK_some,pBin_gtr,gt_iff_lt]
   by_cases k1:d.ops=0
   ·rw [zX k1] at hR
    have k1':¬ 0 < d.ops:=by omega
    simp only [zK k1',F33.n1,aIf_b,zE,zD,zC,zH]
    have fin:=hR h2 ⟨xo,xp,rw.fr0 f02,fun _ h=>.inl h⟩ (SW.of_fr f02)
    simpa [retV,aResV,tupOf] using fin
   ·rw [zW k1] at hR
    have k1':0 < d.ops:=by omega
    simp only [zL k1',F33.n1,aIf_b,zD,zF,zC,zI]
    refine var_ld ov rfl fun _=>?_
    simp only [pFld_ptr,lLd_f,ov,ldk_mk,zG,encD,zA,zB,cellK_some,ha,hn]
    refine var_ld (f2.ob0 oo) rfl fun _=>?_
    refine ⟨SW b xo xp,fun id hs _=>.inl (hM id hs),?_⟩
    have call:=hB j n hj h2 (SW b xo xp) (fun ae h'=>match ae with | .ret v=>retV Try.prog [] R [] h' | .pan v=>R (.pan v) h') a d x qs xz w pl xo xp l hd (rw.fr0 f02) (rt.fr0 f02) (by simpa using han) (hpx.of_fr f2 fun _ _ h=>h) (hq.fr0 f02) sep hlen (by rw [sgR_sg];exact hgb) (fun _ h=>h) (fun h5 hw f5=>by
     have fin:=hR h5 ?_ (SW.trans (SW.of_fr f02) (fun _ h=>.inl h) f5)
     ·simpa [retV,aResV,tupOf] using fin
     ·cases hres:bodyP bk (rs.map (·.1)) j (d.params.zip qs) w pl (sg rs a n) l with
      | ok l'=>
       rw [hres] at hw
       obtain ⟨xo',xp',h1',h2'⟩:=hw
       exact ⟨xo',xp',h1',fun id hid=>(h2' id hid).imp (fun h=>h) (zR f02.next)⟩
      | error e=>rw [hres] at hw;exact hw)
    have ee:encD (d,x)=[Sb d.name,x,I a,I ((a:Int)+n),I d.depth,I d.ops,B !d.whole]:=by simp [encD,ha,hn]
    rw [ee] at call
    exact call
  simp only [zK har',F33.n8,aIf_b,zE,zD,zC,zH,F33.n3]
  refine ⟨fun _=>b,fun _ _=>by rw [rw1.b];simp,?_⟩
  simp only [pNil_ptr,pFld_ptr,lLd_f,rw1.b,ldk_mk,zG,zA,zB,cellK_some,zH,zI]
  have rw2:=rw1
  have kn:∀ {h3:AH} {M3:Nat->Prop} {R3:AE->AH->Prop},Fr h1 h3 (fun _=>False)->R3 (.ret (I j)) h3->ACalls Try.prog 53 [.ptr b 0,Sb d.name] h3 M3 R3:=fun f3 hr=>by
   have rw3:=rw1.fr0 f3
   have hix:=dfnOf_ix sc.bf.i hd
   refine knownR_ok rw3.b rfl rw3.d hdl (fun hn=>by rw [hix] at hn;cases hn) fun i d' hi hd'=>?_
   rw [hix] at hd';cases hd'
   have:=nd_ix sc.bf.i.nd hd hi rfl
   subst this
   exact hr
  refine ⟨?_,?_⟩
  ·refine ⟨fun _=>False,fun _ h=>h.elim,kn Fr.refl ?_⟩
   exact rng_var rw1.d.t.toR encD_len (encD_one hpx.toR.one.1) hyj rfl rfl (fun id hid=>.inr (zR f1.next hid)) fun vd h2 f2 _ ov=>follow vd h2 f2 ov
  ·have hv:=AH.alloc_new h1 (mkO ([Value.string ⟨#[]⟩,.slice none 0 0,.int .i64 0,.int .i64 0,.int .i64 0,.int .i64 0,.bool false].map AV.sc) 7 78)
   rw [eAlloc_d]
   refine ⟨rfl,?_⟩
   have f2:Fr h1 (h1.alloc (mkO ([Value.string ⟨#[]⟩,.slice none 0 0,.int .i64 0,.int .i64 0,.int .i64 0,.int .i64 0,.bool false].map AV.sc) 7 78)) (fun _=>False):=Fr.refl.alloc _
   generalize h1.alloc (mkO ([Value.string ⟨#[]⟩,.slice none 0 0,.int .i64 0,.int .i64 0,.int .i64 0,.int .i64 0,.bool false].map AV.sc) 7 78)=h2 at *
   refine ⟨fun _=>False,fun _ h=>h.elim,kn f2 ?_⟩
   have rw2:=rw1.fr0 f2
   refine rng_at rw2.d.t.toR encD_len hyj fun _=>?_
   simp only [eStore_f,hv,avC_agg,stk_mk]
   refine ⟨⟨.inr f1.next,encD_one hpx.toR.one.1,rfl,by simp⟩,?_⟩
   refine follow _ _ (f2.put (.inr (zU _))) ?_
   rw [put_mk hv]
   congr 1
end
end Go.Proofs.Ytjehibknlmehmaa
namespace Go.Proofs.Ytjehibknlmehmaa
open Go.Ab
attribute [-simp] eAlloc_d eStore_f
section
variable {n0:Nat} {h h' h1 h2:AH} {b:Nat} {xr:AV} {bk:Bk} {xq xb xd:AV} {yl:List (Dfn×AV)} {l:OL} {pl er:Int} {many:Bool} {xo xp:AV} {res:Except Int OL}
theorem WP.cases (a:WP n0 xr bk xq xb xd yl b h xo xp h' res):(∃ l xo' xp',res=.ok l/\RW n0 h' b xr bk xq xb xd yl l 0 0 false xo' xp'/\∀ id,SW b xo' xp' id->SW b xo xp id\/h.next<=id)\/∃ e l xo' xp',res=.error e/\RW n0 h' b xr bk xq xb xd yl l e 115 true xo' xp':=by
 cases res with
 | ok l=>obtain ⟨xo',xp',h1,h2⟩:=a;exact .inl ⟨l,xo',xp',rfl,h1,h2⟩
 | error e=>obtain ⟨l,xo',xp',h1⟩:=a;exact .inr ⟨e,l,xo',xp',rfl,h1⟩
theorem WP.obj (a:WP n0 xr bk xq xb xd yl b h xo xp h' res):∃ l pl er many xo' xp',RW n0 h' b xr bk xq xb xd yl l pl er many xo' xp':=by
 rcases a.cases with ⟨l,xo',xp',_,h1,_⟩ | ⟨e,l,xo',xp',_,h1⟩
 ·exact ⟨_,_,_,_,_,_,h1⟩
 ·exact ⟨_,_,_,_,_,_,h1⟩
theorem RW.fresh (a:RW n0 h b xr bk xq xb xd yl l pl er many xo xp) {v:Nat} (hv:h.next<=v):¬ SW b xo xp v:=fun hs=>by
 obtain ⟨_,o,ho,_⟩:=a.sw hs
 have:=h.lt _ _ ho
 omega
theorem WP.base {xo1 xp1:AV} (a:WP n0 xr bk xq xb xd yl b h1 xo1 xp1 h' res) (hx:h.next<=h1.next) (hn:∀ id,SW b xo1 xp1 id->SW b xo xp id\/h.next<=id):WP n0 xr bk xq xb xd yl b h xo xp h' res:=by
 cases res with
 | ok l=>obtain ⟨xo',xp',h1,h2⟩:=a;exact ⟨xo',xp',h1,fun id hid=>(h2 id hid).elim (hn id) fun h=>.inr (zR hx h)⟩
 | error e=>exact a
end
theorem bind_err {f:OL->Except Int OL} {e:Int}:bindP f (.error e)=.error e:=rfl
theorem bind_ok {f:OL->Except Int OL} {l:OL}:bindP f (.ok l)=f l:=rfl
section
variable {W:Nat->Prop} {QR QN:VK} {QE:Nat->VK} {QP:AV->AH->Prop} {h:AH} {n0 b vd vo vr:Nat} {xr xo xp xz xpd x3:AV} {bk:Bk} {xq xb xd:AV} {yl:List (Dfn×AV)} {l:OL} {pl:Int} {rs:List (Row×AV)} {w:Wsh} {y:Row×AV} {k j kk:Nat} {d:Dfn} {qs:List Int}
structure IK (W:Nat->Prop) (h:AH) (n0 b vd vo vr:Nat) (xr xo xp xz xpd:AV) (bk:Bk) (xq xb xd:AV) (yl:List (Dfn×AV)) (l:OL) (rs:List (Row×AV)) (w:Wsh) (y:Row×AV) (k:Nat) (d:Dfn) (qs:List Int):Prop where
 sc:SC bk rs
 rw:RW n0 h b xr bk xq xb xd yl l 0 0 false xo xp
 rt:RT h xr rs
 hd:bk.ds[k]?=some d
 od:h.obj vd=some (mkO (encD (d,xpd)) 7 78)
 oo:h.obj vo=some (mkO (encW0 w) 7 49)
 or_:h.obj vr=some (mkO (encRA y) 6 42)
 nd:¬ SW b xo xp vd
 no:¬ SW b xo xp vo
 nr:¬ SW b xo xp vr
 hp:SlL encS 1 9 h xpd d.params
 hz:SlR encI 1 3 h xz qs
 sep:Sep xp xz
 hl:qs.length=d.params.length
 hW:∀ id,SW b xo xp id\/h.next<=id->W id
theorem F55_rep (hB:InsS n0 b xr bk xq xb xd yl rs k kk) (i:IK W h n0 b vd vo vr xr xo xp xz xpd bk xq xb xd yl l rs w y k d qs) (hj:j+1+kk<=rs.length) (hrw:y.1.rows=kk) (hg:GB bk k d.params (sg rs (j+1) kk)) (hnum:y.1.num<=9223372036854775807)
  (hk:∀ h',WP n0 xr bk xq xb xd yl b h xo xp h' (repP (bodyP bk (rs.map (·.1)) k (d.params.zip qs) w pl (sg rs (j+1) kk)) y.1.num.toNat l)->Fr h h' (SW b xo xp)->F55.n1 W QR QN QE QP (.ptr b 0) x3 xz (I pl) (.ptr vd 0) (.ptr vo 0) (I j) h') :
  F55.n12 W QR QN QE QP (.ptr b 0) x3 xz (I pl) (.ptr vd 0) (.ptr vo 0) (I j) (.ptr vr 0) h:=by
 unfold F55.n12 F55.n11
 have hlen:=i.rt.n
 generalize hT:repP (bodyP bk (rs.map (·.1)) k (d.params.zip qs) w pl (sg rs (j+1) kk)) y.1.num.toNat l=T at hk
 refine vLoop_of (ι:=Nat×Except Int OL) (fun q v h'=>v=[.ptr b 0,x3,xz,I pl,.ptr vd 0,.ptr vo 0,I j,.ptr vr 0,I (y.1.num.toNat - q.1:Nat)]/\q.1<=y.1.num.toNat/\WP n0 xr bk xq xb xd yl b h xo xp h' q.2/\bindP (repP (bodyP bk (rs.map (·.1)) k (d.params.zip qs) w pl (sg rs (j+1) kk)) q.1) q.2=T/\Fr h h' (SW b xo xp)) (fun q=>q.1) (y.1.num.toNat,.ok l) ⟨by simp,zU _,⟨xo,xp,i.rw,fun _ h=>.inl h⟩,hT,Fr.refl⟩ ?_
 rintro K ⟨c,res⟩ v h1 ⟨rfl,hc,hw,heq,f1⟩ step
 simp only at hc hw heq step
 have or1:=f1.obj i.or_ i.nr
 have g1:=i.rw.tw f1
 simp only [F55.g2_,zN,zO,F55.n10,pFld_ptr,lLd_f,or1,ldk_mk,zG,encRA,zA,zB,cellK_some,pBin_lss]
 cases c with
 | zero=>
  have e1:decide (((y.1.num.toNat - 0:Nat):Int) < y.1.num)=false:=by simp;omega
  have hres:res=T:=by
   rw [<-heq]
   cases res <;> rfl
  rw [hres] at hw
  simp only [e1,F55.n9,aIg_b,zS,zE,zD,zC,zH,F55.n8,pPick_b,if_false,F55.n7,aIf_b,zV,zN,zO]
  exact hk h1 hw f1
 | succ c=>
  have e1:decide (((y.1.num.toNat - (c+1):Nat):Int) < y.1.num)=true:=by simp;omega
  have w1:∀ x:Int,0<=x/\x<=1000000000->IntKind.i64.wrap x=x:=fun x hx=>wrap_in (by omega) (by omega)
  have w3:IntKind.i64.wrap (((y.1.num.toNat - (c+1):Nat):Int)+1)=((y.1.num.toNat - c:Nat):Int):=by rw [wrap_in (by omega) (by omega)];omega
  rcases hw.cases with ⟨l1,xo1,xp1,rfl,rw1,hn1⟩ | ⟨e,l1,xo1,xp1,rfl,rw1⟩
  ·simp only [bind_ok,repP] at heq
   have hz1:=i.rw.keep f1 i.hz i.sep
   have od1:=f1.obj i.od i.nd
   have oo1:=f1.obj i.oo i.no
   simp only [e1,F55.n9,aIg_b,zS,zD,zF,zC,zI,pNil_ptr,pFld_ptr,lLd_f,rw1.b,ldk_mk,zG,zA,zB,cellK_some,pUn_not,zT,F55.n8,pPick_b,zV,F55.n7,aIf_b,F55.n6,rw1.opsLen.1,rw1.opsLen.2,zH,F55.n5]
   refine var_ld od1 rfl fun _=>?_
   simp only [pBin_add,w1 ((j:Int)+1) (by omega),pFld_ptr,lLd_f,or1,ldk_mk,zG,encRA,zA,zB,cellK_some,hrw,w1 ((j:Int)+1+kk) (by omega)]
   refine var_ld oo1 rfl fun _=>?_
   refine ⟨SW b xo1 xp1,fun id hs _=>i.hW id (hn1 id hs),hB h1 _ _ (j+1) d xpd qs xz w pl xo1 xp1 l1 i.hd rw1 (i.rt.frR g1) hj (i.hp.frT g1 rfl) hz1.1 (hz1.2 _ _ hn1) i.hl hg (fun _ h=>h) fun h2 hw2 f2=>?_⟩
   have f02:Fr h h2 (SW b xo xp):=SW.trans f1 hn1 f2
   have hw2':=WP.base (h:=h) (xo:=xo) (xp:=xp) hw2 f1.next hn1
   obtain ⟨l2,pl2,er2,many2,xo2,xp2,rw2⟩:=hw2.obj
   have hl2:∀ l',bodyP bk (rs.map (·.1)) k (d.params.zip qs) w pl (sg rs (j+1) kk) l1=.ok l'->l'.length=l2.length:=fun l' hl'=>by
    rw [hl'] at hw2
    obtain ⟨xo3,xp3,rw3,_⟩:=hw2
    have h1:=rw3.opsLen.2 (fun v=>v=I l'.length)
    have h2:=rw2.opsLen.2 (fun v=>v=I l'.length)
    have hb:=rw3.b
    rw [rw2.b] at hb
    have hxo:xo2=xo3:=by
     have:=congrArg (fun o:Option AO=>(o.map (·.cells)).bind (·[7]?)) hb
     simpa [oBk,mkO] using this
    rw [<-hxo] at h1
    rw [h1] at h2
    have h3:=h2.mp rfl
    have:(l2.length:Int)=l'.length:=by injection h3 with h4;injection h4
    omega
   simp only [F55.n4,pNil_ptr,pFld_ptr,lLd_f,rw2.b,ldk_mk,zG,zA,zB,cellK_some,rw2.opsLen.1,rw2.opsLen.2,zH,pBin_eql]
   by_cases k1:l2.length=l1.length
   ·have k1':((l2.length:Int)==(l1.length:Int))=true:=by rw [k1];simp
    simp only [k1',F55.n3,aIf_b,zD,zF,zC,zI,zV,zN,zO]
    refine hk h2 ?_ f02
    cases hb:bodyP bk (rs.map (·.1)) k (d.params.zip qs) w pl (sg rs (j+1) kk) l1 with
    | ok l'=>
     rw [hb] at heq hw2'
     simp only at heq
     rw [zX (by rw [hl2 l' hb,k1])] at heq
     rw [<-heq];exact hw2'
    | error e=>
     rw [hb] at heq hw2'
     simp only at heq
     rw [<-heq];exact hw2'
   ·have k1':((l2.length:Int)==(l1.length:Int))=false:=by simp;omega
    simp only [k1',F55.n3,aIf_b,zE,zD,zC,zH,F55.n2,pBin_add,w3]
    refine step (c,bodyP bk (rs.map (·.1)) k (d.params.zip qs) w pl (sg rs (j+1) kk) l1) _ h2 (by simp only;omega) ⟨rfl,by simp only;omega,hw2',?_,f02⟩
    cases hb:bodyP bk (rs.map (·.1)) k (d.params.zip qs) w pl (sg rs (j+1) kk) l1 with
    | ok l'=>
     rw [hb] at heq
     simp only at heq
     rw [zW (by rw [hl2 l' hb];exact k1)] at heq
     exact heq
    | error e=>
     rw [hb] at heq
     exact heq
  ·rw [bind_err] at heq
   rw [heq] at hw
   simp only [e1,F55.n9,aIg_b,zS,zD,zF,zC,zI,pNil_ptr,pFld_ptr,lLd_f,rw1.b,ldk_mk,zG,zA,zB,cellK_some,pUn_not,F55.n8,pPick_b,zV,F55.n7,aIf_b,zE,zH,zN,zO]
   exact hk h1 hw f1
end
end Go.Proofs.Ytjehibknlmehmaa
namespace Go.Proofs.Ytjehibknlmehmaa
open Go.Ab
attribute [-simp] eAlloc_d eStore_f
theorem mk_ints {m:Nat} {h:AH} {K:AV->AH->Prop} (hm:m<=100000000) (hK:∀ y h',SlL encI 1 3 h' y []->InS (h.next<=·) y->Fr h h' (fun _=>False)->K y h'):eMk (some (1,8,3,[.int .i64 0])) (I 0) (I m) h K:=by
 refine ⟨⟨by omega,by omega,by omega,by omega,rfl,rfl⟩,?_⟩
 refine hK _ _ (.inr ⟨_,rfl,?_⟩) (fun id off n e=>?_) (Fr.refl.alloc _)
 ·exact AH.alloc_new h _
 ·cases e;exact zU _
section
variable {W:Nat->Prop} {QR QN:VK} {QE:Nat->VK} {QP:AV->AH->Prop} {h:AH} {n0 b vd vo vr:Nat} {xr xo xp xz xpd x3:AV} {bk:Bk} {xq xb xd:AV} {yl:List (Dfn×AV)} {l:OL} {pl:Int} {rs:List (Row×AV)} {w:Wsh} {y:Row×AV} {k j kk:Nat} {d:Dfn} {qs:List Int}
theorem F55_use (hA:GateS n0 b xr bk xq xb xd yl rs k) (i:IK W h n0 b vd vo vr xr xo xp xz xpd bk xq xb xd yl l rs w y k d qs) (hy:rs[j]?=some y) (hu:UseN bk k y.1) (hm:∀ a∈y.1.args,memB a.name d.params=true)
  (hk:∀ h',WP n0 xr bk xq xb xd yl b h xo xp h' (applyP bk (rs.map (·.1)) k y.1.name (y.1.args.map fun a=>bndP (d.params.zip qs) a.name) w pl l)->Fr h h' (SW b xo xp)->F55.n1 W QR QN QE QP (.ptr b 0) x3 xz (I pl) (.ptr vd 0) (.ptr vo 0) (I j) h') :
  F55.n20 W QR QN QE QP (.ptr b 0) x3 xz (I pl) (.ptr vd 0) (.ptr vo 0) (I j) (.ptr vr 0) h:=by
 obtain ⟨ha,hl⟩:=i.rt.a y (zP hy)
 have hpl:=(i.sc.bf.i.ok.ds d (zP i.hd)).1
 simp only [F55.n20,pFld_ptr,lLd_f,i.or_,ldk_mk,zG,encRA,zA,zB,cellK_some,ha.len.1,ha.len.2,zH]
 refine mk_ints hl fun x5 h1 hx1 hs1 f1=>?_
 unfold F55.n19 F55.n18
 refine vLoop_of (ι:=Nat×AV) (fun q v h'=>v=[.ptr b 0,x3,xz,I pl,.ptr vd 0,.ptr vo 0,I j,.ptr vr 0,q.2,I q.1]/\q.1<=y.1.args.length/\Fr h h' (fun _=>False)/\SlL encI 1 3 h' q.2 ((y.1.args.take q.1).map fun a=>bndP (d.params.zip qs) a.name)/\InS (h.next<=·) q.2) (fun q=>y.1.args.length - q.1) (0,x5) ⟨rfl,by omega,f1,by simpa using hx1,hs1⟩ ?_
 rintro K ⟨q,x6⟩ v h2 ⟨rfl,hq,f2,hx,hs⟩ step
 simp only at hq hx hs step
 have or2:=f2.ob0 i.or_
 have ha2:=ha.fr0 f2
 simp only [F55.g3_,zN,zO,F55.n17,pFld_ptr,lLd_f,or2,ldk_mk,zG,encRA,zA,zB,cellK_some,ha2.len.1,ha2.len.2,zH,pBin_lss]
 by_cases hlt:q < y.1.args.length
 ·have hli:(q:Int) < y.1.args.length:=by omega
  have g1:y.1.args[q]?=some y.1.args[q]:=zJ hlt
  have hmem:=List.getElem_mem hlt
  have htk:y.1.args.take (q+1)=y.1.args.take q++[y.1.args[q]]:=by rw [List.take_add_one,g1];rfl
  generalize y.1.args[q]=a at *
  have w2:IntKind.i64.wrap ((q:Int)+1)=((q+1:Nat):Int):=by rw [wrap_in (by omega) (by omega)];simp
  have od2:=f2.ob0 i.od
  simp only [zL hli,F55.n16,aIf_b,zD,zF,zC,zI,F55.n15,pFld_ptr,lLd_f,od2,or2,ldk_mk,zG,encD,encRA,zA,zB,cellK_some]
  refine rng_fld (k:=0) ha2 Arg.enc_len g1 (by omega) rfl fun _=>?_
  refine ⟨fun _=>False,fun _ h=>h.elim,place_ok (i.hp.of_fr f2 fun _ _ h=>h).toR hpl ?_⟩
  obtain ⟨m,hix⟩:∃ m,idxN a.name d.params 0=some m:=by
   have:=hm a hmem
   unfold memB at this
   exact Option.isSome_iff_exists.1 this
  rw [hix]
  have hqm:=bnd_zip (n:=a.name) (ps:=d.params) (qs:=qs) (i:=0) (j:=m) (by simpa using hix) i.hl.symm
  refine rng_one (i.hz.fr0 f2) (fun _=>rfl) hqm rfl fun _=>?_
  refine appv (f:=encI) (t:=bndP (d.params.zip qs) a.name) encI_len (by omega) rfl (by omega) rfl rfl hx (fun id off n e=>i.hW id (.inr (hs id off n e))) (by rw [zZ,yA];omega) fun z h3 hz hzs f3=>?_
  have f03:Fr h h3 fun _=>False:=f2.trans (f3.mono fun j ⟨off,n,e⟩=>.inr (hs j off n e))
  simp only [F55.n14,pBin_add,w2]
  refine step (q+1,z) _ h3 (by simp only;omega) ⟨rfl,by simp only;omega,f03,?_,fun id off n e=>zR f2.next (hzs id off n e)⟩
  rw [htk,List.map_append]
  exact hz
 ·have hnl:¬ (q:Int) < y.1.args.length:=by omega
  have e:q=y.1.args.length:=by omega
  rw [e,List.take_length] at hx
  have rw2:=i.rw.fr0 f2
  simp only [zK hnl,F55.n16,aIf_b,zE,zD,zC,zH,zV,F55.n13,pFld_ptr,lLd_f,or2,ldk_mk,zG,encRA,zA,zB,cellK_some,zN,zO]
  refine var_ld (f2.ob0 i.oo) rfl fun _=>?_
  refine ⟨SW b xo xp,fun id hs _=>i.hW id (.inl hs),hA h2 _ _ y.1.name _ x6 w pl xo xp l rw2 (i.rt.fr0 f2) hx.toR (sep_old i.rw.x hs) ?_ (fun _ h=>h) fun h3 hw f3=>?_⟩
  ·rcases hu with ⟨u1,u2,_⟩ | ⟨jj,d',u1,u2,u3,u4,u5⟩
   ·exact .inl ⟨u1,u2⟩
   ·exact .inr ⟨jj,d',u1,u2,u3,by simpa using u4,u5⟩
  ·exact hk h3 (hw.base f2.next fun id h=>.inl h) (SW.trans (SW.of_fr f2) (fun _ h=>.inl h) f3)
end
section
variable {n0 b:Nat} {xr:AV} {bk:Bk} {xq xb xd:AV} {yl:List (Dfn×AV)} {rs:List (Row×AV)} {k:Nat}
theorem insS_of (sc:SC bk rs) (hA:GateS n0 b xr bk xq xb xd yl rs k) (n:Nat):InsS n0 b xr bk xq xb xd yl rs k n:=by
 induction n using Nat.strongRecOn with
 | ind n ih=>
 intro h M R a d xpd qs xz w pl xo xp l hd rw rt hn hp hz sep hl hg hM hR
 apply F55.callsN
 unfold F55.n30
 refine box_var (cs:=encD (d,xpd)) (encD_one hp.toR.one.1) fun vd ha fa hvd od=>?_
 refine box_var (cs:=encW0 w) rfl fun vo hb fb hvo oo=>?_
 have fab:=fa.tr0 fb
 have odb:=fb.ob0 od
 have rwb:=rw.fr0 fab
 have nd:=rw.fresh hvd
 have no:=rw.fresh (v:=vo) (zR fa.next hvo)
 unfold F55.n29 F55.n28
 have hlen:=rt.n
 generalize hT:bodyP bk (rs.map (·.1)) k (d.params.zip qs) w pl (sg rs a n) l=T at hR
 refine vLoop_of (ι:=Nat×Except Int OL) (fun q v h'=>v=[.ptr b 0,I (a+n),xz,I pl,.ptr vd 0,.ptr vo 0,I (a+(n - q.1:Nat):Int)]/\q.1<=n/\WP n0 xr bk xq xb xd yl b hb xo xp h' q.2/\GB bk k d.params (sg rs (a+(n - q.1)) q.1)/\bindP (bodyP bk (rs.map (·.1)) k (d.params.zip qs) w pl (sg rs (a+(n - q.1)) q.1)) q.2=T/\Fr hb h' (SW b xo xp)) (fun q=>q.1) (n,.ok l) ⟨by simp,zU _,⟨xo,xp,rwb,fun _ h=>.inl h⟩,by simpa using hg,by simpa [bind_ok] using hT,Fr.refl⟩ ?_
 rintro K ⟨m,res⟩ v h1 ⟨rfl,hm,hw,hg2,heq,f1⟩ step
 simp only at hm hw hg2 heq step
 have g1:=rwb.tw f1
 have rt1:=(rt.fr0 fab).frR g1
 have fin:WP n0 xr bk xq xb xd yl b hb xo xp h1 T->retV Try.prog [] R [] h1:=fun hw'=>by
  have:=hR h1 (hw'.base fab.next fun _ h=>.inl h) (SW.trans (SW.of_fr fab) (fun _ h=>.inl h) f1)
  simpa [retV,aResV,tupOf] using this
 unfold F55.g1_
 simp only [zN,zO,F55.n27,pBin_lss]
 cases m with
 | zero=>
  have e1:decide ((a:Int)+(n - 0:Nat) < a+n)=false:=by simp
  have hres:res=T:=by
   rw [<-heq,sg_0]
   cases res with
   | error e=>rfl
   | ok l=>rw [bind_ok,bodyP_nil]
  rw [hres] at hw
  simp only [e1,F55.n26,aIg_b,zS,zE,zD,zC,zH,F55.n25,pPick_b,if_false,F55.n24,aIf_b,zV]
  exact fin hw
 | succ m=>
  obtain ⟨j,hj⟩:∃ j,j=a+(n - (m+1)):=⟨_,rfl⟩
  have ej:(a:Int)+(n - (m+1):Nat)=(j:Int):=by omega
  have e1:decide ((j:Int) < a+n)=true:=by simp;omega
  rw [<-hj] at heq hg2
  obtain ⟨y,hy⟩:∃ y,rs[j]?=some y:=⟨rs[j]'(by omega),zJ _⟩
  rw [sg_s hy] at heq hg2
  obtain ⟨⟨b0,b1⟩,gd,gk⟩:=hg2.inv
  have gu:=fun h=>hg2.use_args h
  rw [sg_len (by omega)] at b1
  obtain ⟨kk,hkk⟩:∃ kk:Nat,y.1.rows=kk:=⟨y.1.rows.toNat,by omega⟩
  have hkm:kk<=m:=by omega
  rw [hkk,zY,sg_take hkm] at gk
  rw [hkk,zY,sg_drop] at gd
  have w1:∀ x:Int,0<=x/\x<=1000000000->IntKind.i64.wrap x=x:=fun x hx=>wrap_in (by omega) (by omega)
  rcases hw.cases with ⟨l1,xo1,xp1,rfl,rw1,hn1⟩ | ⟨e,l1,xo1,xp1,rfl,rw1⟩
  ·rw [bind_ok,bodyP_cons,hkk,zY,sg_take hkm,sg_drop] at heq
   simp only [e1,ej,F55.n26,aIg_b,zS,zD,zF,zC,zI,pNil_ptr,pFld_ptr,lLd_f,rw1.b,ldk_mk,zG,zA,zB,cellK_some,pUn_not,zT,F55.n25,pPick_b,zV,F55.n24,aIf_b,F55.n23]
   have hWb:∀ id,SW b xo1 xp1 id\/h1.next<=id->(M id\/h.next<=id):=fun id hid=>by
    rcases hid with hid | hid
    ·rcases hn1 id hid with h' | h'
     ·exact .inl (hM id h')
     ·exact .inr (zR fab.next h')
    ·exact .inr (zR fab.next (zR f1.next hid))
   refine rng_var rt1.r encRA_len (rt1.one hy) hy rfl rfl (fun id hid=>hWb id (.inr hid)) fun vr h3 f3 hvr or3=>?_
   have rw3:=rw1.fr0 f3
   have hz1:=rwb.keep f1 (hz.fr0 fab) sep
   have nbase:∀ {v:Nat} {o:AO},hb.obj v=some o->¬ SW b xo xp v->¬ SW b xo1 xp1 v:=fun {v o} hv hns hs=>by
    rcases hn1 v hs with h' | h'
    ·exact hns h'
    ·have:=hb.lt _ _ hv;omega
   have ik:IK (fun id=>M id\/h.next<=id) h3 n0 b vd vo vr xr xo1 xp1 xz xpd bk xq xb xd yl l1 rs w y k d qs:=
    ⟨sc,rw3,rt1.fr0 f3,hd,f3.ob0 (f1.obj odb nd),f3.ob0 (f1.obj oo no),or3,nbase odb nd,nbase oo no,rw1.fresh hvr,((hp.of_fr fab fun _ _ h=>h).frT g1 rfl).of_fr f3 fun _ _ h=>h,hz1.1.fr0 f3,hz1.2 _ _ hn1,hl,
     fun id hid=>hWb id (hid.imp (fun h=>h) (zR f3.next))⟩
   have hnext:∀ h' res',bindP (bodyP bk (rs.map (·.1)) k (d.params.zip qs) w pl (sg rs (j+1+kk) (m - kk))) res'=T->WP n0 xr bk xq xb xd yl b h3 xo1 xp1 h' res'->Fr h3 h' (SW b xo1 xp1) ->
     F55.n1 (fun id=>M id\/h.next<=id) (retV Try.prog [] R) K (fun (i:Nat) (vs:List AV) (h:AH)=>if i=0 then retV Try.prog [] R vs h else False) (fun v h=>R (.pan v) h) (.ptr b 0) (I (a+n)) xz (I pl) (.ptr vd 0) (.ptr vo 0) (I j) h':=fun h' res' hl' hw' f'=>by
    obtain ⟨l2,pl2,er2,many2,xo2,xp2,rw2⟩:=hw'.obj
    have f04:Fr hb h' (SW b xo xp):=SW.trans f1 hn1 (SW.trans (SW.of_fr f3) (fun _ h=>.inl h) f')
    simp only [F55.n1,pNil_ptr,pFld_ptr,lLd_f,rw2.b,ldk_mk,zG,zA,cellK_some]
    refine rng_fld (k:=4) ((rt.fr0 fab).frR (rwb.tw f04)).r encRA_len hy (by omega) rfl fun _=>?_
    rw [hkk]
    simp only [pBin_add,w1 (1+(kk:Int)) (by omega),w1 ((j:Int)+(1+kk)) (by omega)]
    have e8:j+1+kk=a+(n - (m - kk)):=by omega
    have e9:(j:Int)+(1+kk)=a+(n - (m - kk):Nat):=by omega
    rw [e8] at hl' gd
    exact step (m - kk,res') _ h' (by simp only;omega) ⟨by rw [<-e9],by simp only;omega,hw'.base (zR f1.next f3.next) (fun id hid=>(hn1 id hid)),gd,hl',f04⟩
   have e4:(⟨#[117,115,101]⟩:ByteArray)=sUse:=rfl
   simp only [F55.n22,pFld_ptr,lLd_f,or3,ldk_mk,zG,encRA,zA,zB,cellK_some,pBin_seql,e4]
   rcases gk with ⟨k1,k2⟩ | ⟨k1,k2⟩
   ·rw [zX k1] at heq
    have k1':¬ y.1.kind=sUse:=by rw [k1];decide
    simp only [zK k1',F55.n21,aIf_b,zE,zD,zC,zH]
    exact F55_rep (ih kk (by omega)) ik (by omega) hkk k2 (sc.nm y (zP hy)) fun h' hw' f'=>hnext h' _ heq hw' f'
   ·rw [zW k1] at heq
    obtain ⟨k1',hargs⟩:=gu k1
    simp only [zL k1',F55.n21,aIf_b,zD,zF,zC,zI]
    exact F55_use hA ik hy k2 hargs fun h' hw' f'=>hnext h' _ heq hw' f'
  ·rw [bind_err] at heq
   rw [heq] at hw
   simp only [e1,ej,F55.n26,aIg_b,zS,zD,zF,zC,zI,pNil_ptr,pFld_ptr,lLd_f,rw1.b,ldk_mk,zG,zA,zB,cellK_some,pUn_not,F55.n25,pPick_b,zV,F55.n24,aIf_b,zE,zH]
   exact fin hw
theorem gateS_all (sc:SC bk rs) (hdl:bk.ds.length<=100000000):GateS n0 b xr bk xq xb xd yl rs k:=by
 induction k using Nat.strongRecOn with
 | ind k ih=>exact gateS_of sc hdl fun j n hj=>insS_of sc (ih j hj) n
end
end Go.Proofs.Ytjehibknlmehmaa
namespace Go.Proofs.Ytjehibknlmehmaa
open Go.Ab
theorem b64:IntKind.u64.bits=64:=rfl
theorem andU_nat (a b:Nat) (ha:a < 18446744073709551616) (hb:b < 18446744073709551616):andU a b=((a &&& b:Nat):Int):=by
 unfold andU
 rw [b64]
 have e:∀ x:Nat,BitVec.ofInt 64 (x:Int)=BitVec.ofNat 64 x:=fun x=>by simp
 rw [e,e,BitVec.toNat_and,BitVec.toNat_ofNat,BitVec.toNat_ofNat,Nat.mod_eq_of_lt (by simpa using ha),Nat.mod_eq_of_lt (by simpa using hb)]
 have hlt:a &&& b < 18446744073709551616:=Nat.lt_of_le_of_lt Nat.and_le_left ha
 have hw:=wrapU ((a &&& b:Nat):Int)
 have e2:IntKind.u64.wrap ((a &&& b:Nat):Int)=((a &&& b:Nat):Int) % 18446744073709551616:=by unfold IntKind.wrap;rfl
 rw [e2]
 omega
theorem orU_nat (a b:Nat) (ha:a < 18446744073709551616) (hb:b < 18446744073709551616):orU a b=((a ||| b:Nat):Int):=by
 unfold orU
 rw [b64]
 have e:∀ x:Nat,BitVec.ofInt 64 (x:Int)=BitVec.ofNat 64 x:=fun x=>by simp
 rw [e,e,BitVec.toNat_or,BitVec.toNat_ofNat,BitVec.toNat_ofNat,Nat.mod_eq_of_lt (by simpa using ha),Nat.mod_eq_of_lt (by simpa using hb)]
 have hlt:a ||| b < 18446744073709551616:=Nat.or_lt_two_pow (n:=64) (by simpa using ha) (by simpa using hb)
 have e2:IntKind.u64.wrap ((a ||| b:Nat):Int)=((a ||| b:Nat):Int) % 18446744073709551616:=by unfold IntKind.wrap;rfl
 rw [e2]
 omega
def mN (s f:Nat):Nat:=(2 ^ s - 1) * 2 ^ f
theorem mN_bit {s f i:Nat}:(mN s f).testBit i=(decide (f<=i)&&decide (i < f+s)):=by
 unfold mN
 rw [Nat.testBit_mul_two_pow]
 by_cases h:f<=i
 ·rw [Nat.testBit_two_pow_sub_one]
  simp [h];omega
 ·simp [h]
theorem mN_lt {s f:Nat} (h:s+f<=64):mN s f < 18446744073709551616:=by
 unfold mN
 have h1:2 ^ s * 2 ^ f<=2 ^ 64:=by rw [<-Nat.pow_add];exact Nat.pow_le_pow_right (by decide) h
 have h2:0 < 2 ^ s:=Nat.two_pow_pos s
 have h3:0 < 2 ^ f:=Nat.two_pow_pos f
 have h4:(2 ^ s - 1) * 2 ^ f+2 ^ f=2 ^ s * 2 ^ f:=by rw [<-Nat.succ_mul];congr 1;omega
 have h5:(2:Nat) ^ 64=18446744073709551616:=by decide
 omega
theorem wrap_u {x:Int} (h0:0<=x) (h1:x < 18446744073709551616):IntKind.u64.wrap x=x:=by
 have e2:IntKind.u64.wrap x=x % 18446744073709551616:=by unfold IntKind.wrap;rfl
 rw [e2];omega
theorem wrapU_mod (x:Int):IntKind.u64.wrap x=x % 18446744073709551616:=by unfold IntKind.wrap;rfl
theorem pow_cast (n:Nat):(2:Int) ^ n=((2 ^ n:Nat):Int):=by simp
theorem maskOf_nat {g:Reg} {s f:Nat} (hs:g.size=s) (hf:g.from_=f) (h1:1<=s) (h:s+f<=64):maskOf g=(mN s f:Nat):=by
 unfold maskOf
 rw [hs,hf,zY,zY,Nat.min_eq_left (by omega),Nat.min_eq_left (by omega),Int.one_mul,pow_cast,pow_cast]
 have h2:0 < 2 ^ s:=Nat.two_pow_pos s
 have h4:IntKind.u64.wrap (IntKind.u64.wrap ((2 ^ s:Nat):Int) - 1)=((2 ^ s - 1:Nat):Int):=by
  have h3:2 ^ s<=2 ^ 64:=Nat.pow_le_pow_right (by decide) (by omega)
  have h5:(2:Nat) ^ 64=18446744073709551616:=by decide
  rw [wrapU_mod,wrapU_mod]
  generalize 2 ^ s=P at *
  omega
 rw [h4]
 have h6:=mN_lt h
 unfold mN at h6 ⊢
 rw [show ((2 ^ s - 1:Nat):Int) * ((2 ^ f:Nat):Int)=(((2 ^ s - 1) * 2 ^ f:Nat):Int) by simp]
 exact wrap_u (by omega) (by omega)
theorem valOf_nat {g:Reg} {s f v:Nat} {n:Int} (hs:g.size=s) (hf:g.from_=f) (hn:n=v) (hv:v < 2 ^ s) (h:s+f<=64):valOf g n=((v * 2 ^ f:Nat):Int)/\v * 2 ^ f < 18446744073709551616:=by
 unfold valOf
 have h1:v * 2 ^ f < 2 ^ s * 2 ^ f:=Nat.mul_lt_mul_of_pos_right hv (Nat.two_pow_pos f)
 have h2:2 ^ s * 2 ^ f<=2 ^ 64:=by rw [<-Nat.pow_add];exact Nat.pow_le_pow_right (by decide) h
 have h5:(2:Nat) ^ 64=18446744073709551616:=by decide
 have h6:v<=v * 2 ^ f:=Nat.le_mul_of_pos_right _ (Nat.two_pow_pos f)
 rw [hf,hn,zY,Nat.min_eq_left (by omega),pow_cast,wrap_u (x:=(v:Int)) (by omega) (by omega)]
 rw [show ((v:Nat):Int) * ((2 ^ f:Nat):Int)=((v * 2 ^ f:Nat):Int) by simp]
 exact ⟨wrap_u (by omega) (by omega),by omega⟩
theorem val_in {s f v:Nat} (hv:v < 2 ^ s):v * 2 ^ f &&& mN s f=v * 2 ^ f:=by
 apply Nat.eq_of_testBit_eq
 intro i
 rw [Nat.testBit_and,mN_bit,Nat.testBit_mul_two_pow]
 by_cases h:f<=i
 ·by_cases h2:i < f+s
  ·simp [h,h2]
  ·have:v.testBit (i - f)=false:=Nat.testBit_lt_two_pow (Nat.lt_of_lt_of_le hv (Nat.pow_le_pow_right (by decide) (by omega)))
   simp [h,h2,this]
 ·simp [h]
theorem mN_apart {s f s' f':Nat} (h:f+s<=f'\/f'+s'<=f):mN s f &&& mN s' f'=0:=by
 apply Nat.eq_of_testBit_eq
 intro i
 rw [Nat.testBit_and,mN_bit,mN_bit,Nat.zero_testBit]
 by_cases h1:f<=i <;> by_cases h2:i < f+s <;> by_cases h3:f'<=i <;> by_cases h4:i < f'+s' <;> simp [h1,h2,h3,h4] <;> omega
theorem mN_pos {s f:Nat} (h:1<=s):mN s f≠0:=fun e=>by
 have:=mN_bit (s:=s) (f:=f) (i:=f)
 rw [e,Nat.zero_testBit] at this
 simp at this
 omega
theorem ask_same {M V m v:Nat} (h1:V &&& M=V) (h2:v &&& m=v) (h3:M &&& m=0\/M &&& m=m):(V &&& m=v &&& M)↔(M &&& m=0\/V &&& m=v):=by
 have e1:V &&& m=V &&& (M &&& m):=by rw [<-Nat.and_assoc,h1]
 have e2:v &&& M=v &&& (M &&& m):=by rw [Nat.and_comm M m,<-Nat.and_assoc,h2]
 rcases h3 with h3 | h3
 ·rw [e1,e2,h3];simp
 ·rw [e2,h3,h2]
  constructor
  ·exact .inr
  ·rintro (h | h)
   ·subst h
    simp at h2 ⊢
    exact h2
   ·exact h
end Go.Proofs.Ytjehibknlmehmaa
namespace Go.Proofs.Ytjehibknlmehmaa
open Go.Ab
def BkP (bk:Bk):Prop:=bk.bs.Pairwise fun r r'=>r.from_+r.size<=r'.from_
theorem rowP_P {bk bk':Bk} {own:Option Nat} {i:Int} {r:Row} (a:BkI bk) (p:BkP bk) (h:rowP bk own i r=.ok bk'):BkP bk':=by
 have same:∀ e,errP e bk=.ok bk'->BkP bk':=fun e h=>by
  unfold errP at h
  split at h <;> cases h
  exact p
 unfold rowP at h
 split at h
 ·cases hd:declP bk bk.qs 64 r with
  | error e=>rw [hd] at h;cases h
  | ok l=>rw [hd] at h;cases h;exact p
 split at h
 ·cases hd:declP bk bk.bs 64 r with
  | error e=>rw [hd] at h;cases h
  | ok l=>
   rw [hd] at h;cases h
   unfold declP at hd
   split at hd
   ·cases hd
   split at hd
   ·cases hd
   split at hd
   ·cases hd
   cases hd
   unfold BkP
   simp only
   rw [List.pairwise_append]
   refine ⟨p,List.pairwise_singleton _ _,fun x hx y hy=>?_⟩
   have:=List.mem_singleton.1 hy
   subst this
   exact (a.ok.sb x hx).2.2
 split at h
 ·unfold defP at h
  split at h
  ·cases h
  split at h
  ·cases h
  split at h
  ·cases h
  split at h
  ·cases h
  cases h
  exact p
 split at h
 ·split at h
  ·cases h
  ·cases h;exact p
 split at h
 ·unfold ifP at h
  split at h
  ·cases h
  ·split at h
   ·cases h
   ·cases h;exact p
 split at h
 ·unfold useP at h
  split at h
  ·cases h
  split at h
  ·cases h
  split at h
  ·cases h
  split at h
  ·cases h
  split at h
  ·cases h
  split at h
  ·cases h
  cases h
  unfold deepen
  cases own <;> exact p
 split at h
 ·unfold measP at h
  split at h
  ·split at h
   ·cases h
   ·exact same _ h
  ·cases h
 split at h
 ·unfold resetP at h
  split at h
  ·exact same _ h
  ·cases h
 cases h
 exact p
theorem lookP_P (n:Nat):∀ {deep:Nat} {own:Option Nat} {i:Nat} {rows:List Row} {bk bk':Bk} (_:rows.length=n) (_:∀ r∈rows,r.args.length<=100000000) (_:BkI bk) (_:BkP bk) (_:lookP deep own i rows bk=.ok bk'),BkP bk':=by
 induction n using Nat.strongRecOn with
 | ind n ih=>
 intro deep own i rows bk bk' hn hl a p h
 cases rows with
 | nil=>rw [lookP_nil] at h;cases h;exact p
 | cons r rest=>
  rw [lookP_cons] at h
  split at h
  ·cases h
  split at h
  ·cases h
  rename_i bk1 h1
  split at h
  ·cases h
  rename_i bk2 h2
  rw [List.length_cons] at hn
  have p1:=rowP_P a p h1
  obtain ⟨a1,_⟩:=rowP_ok a (hl r (List.mem_cons_self ..)) h1
  have hl1:∀ r'∈rest.take r.rows.toNat,r'.args.length<=100000000:=fun r' hr=>hl r' (List.mem_cons_of_mem _ (List.mem_of_mem_take hr))
  have hl2:∀ r'∈rest.drop r.rows.toNat,r'.args.length<=100000000:=fun r' hr=>hl r' (List.mem_cons_of_mem _ (List.mem_of_mem_drop hr))
  have p2:=ih _ (by rw [yA];omega) rfl hl1 a1 p1 h2
  obtain ⟨a2,_,s2⟩:=lookP_ok _ rfl hl1 a1 h2
  by_cases k:r.kind=sGate
  ·rw [zX k] at h
   exact ih _ (by rw [List.length_drop];omega) rfl hl2 (closed_ok a2 s2).1 p2 h
  ·rw [zW k] at h
   exact ih _ (by rw [List.length_drop];omega) rfl hl2 a2 p2 h
structure WI (bk:Bk) (w:Wsh) (M V:Nat):Prop where
 m:w.mask=M
 v:w.value=V
 hm:M < 18446744073709551616
 hv:V < 18446744073709551616
 i:V &&& M=V
 b:w.is=(w.mask != 0)
 r:∀ g∈bk.bs,∀ s f:Nat,g.size=s->g.from_=f->M &&& mN s f=0\/M &&& mN s f=mN s f
theorem WI_0 {bk:Bk}:WI bk ⟨false,0,0⟩ 0 0:=⟨rfl,rfl,by decide,by decide,rfl,rfl,fun g _ s f _ _=>.inl (Nat.zero_and _)⟩
theorem pair_ne {bk:Bk} (p:BkP bk) {g g':Reg} (h:g∈bk.bs) (h':g'∈bk.bs):g=g'\/g.from_+g.size<=g'.from_\/g'.from_+g'.size<=g.from_:=by
 obtain ⟨i,hi⟩:=List.mem_iff_getElem?.1 h
 obtain ⟨j,hj⟩:=List.mem_iff_getElem?.1 h'
 obtain ⟨i1,i2⟩:=zM.1 hi
 obtain ⟨j1,j2⟩:=zM.1 hj
 have hp:=List.pairwise_iff_getElem.1 p
 rcases Nat.lt_trichotomy i j with hlt | he | hlt
 ·right;left
  have:=hp i j i1 j1 hlt
  rw [i2,j2] at this;exact this
 ·subst he
  left;rw [<-i2,<-j2]
 ·right;right
  have:=hp j i j1 i1 hlt
  rw [i2,j2] at this;exact this
theorem WI_in {bk:Bk} {w:Wsh} {M V:Nat} (a:WI bk w M V) (ok:BkOK bk) (p:BkP bk) {g:Reg} (hg:g∈bk.bs) {n:Int} (h0:0<=n) (h1:g.size < 63->n < 2 ^ g.size.toNat) (h2:n<=9223372036854775807) :
  ((andU w.value (maskOf g)≠andU (valOf g n) w.mask)↔¬ (andU w.mask (maskOf g)=0\/andU w.value (maskOf g)=valOf g n))/\∃ M' V',WI bk ⟨true,orU w.mask (maskOf g),orU w.value (valOf g n)⟩ M' V':=by
 have hs:=ok.sb g hg
 have ht:=ok.tb
 obtain ⟨s,es⟩:∃ s:Nat,g.size=s:=⟨g.size.toNat,by omega⟩
 obtain ⟨f,ef⟩:∃ f:Nat,g.from_=f:=⟨g.from_.toNat,by omega⟩
 obtain ⟨v,ev⟩:∃ v:Nat,n=v:=⟨n.toNat,by omega⟩
 have hsf:s+f<=64:=by omega
 have hv:v < 2 ^ s:=by
  by_cases h:s < 63
  ·have:=h1 (by omega)
   rw [es,zY,pow_cast] at this
   omega
  ·have h3:2 ^ 63<=2 ^ s:=Nat.pow_le_pow_right (by decide) (by omega)
   have h5:(2:Nat) ^ 63=9223372036854775808:=by decide
   omega
 have em:=maskOf_nat es ef (by omega) hsf
 obtain ⟨evv,hvl⟩:=valOf_nat es ef ev hv hsf
 have hml:=mN_lt hsf
 have hvi:=val_in (f:=f) hv
 have hr:=a.r g hg s f es ef
 generalize hmm:mN s f=m at *
 generalize v * 2 ^ f=vv at *
 refine ⟨?_,M ||| m,V ||| vv,⟨?_,?_,?_,?_,?_,?_,?_⟩⟩
 ·rw [em,evv,a.m,a.v,andU_nat _ _ a.hv hml,andU_nat _ _ hvl a.hm,andU_nat _ _ a.hm hml]
  have key:=ask_same a.i hvi hr
  rw [ne_eq,not_congr]
  have c1:(((V &&& m:Nat):Int)=((vv &&& M:Nat):Int))↔V &&& m=vv &&& M:=by omega
  have c2:(((M &&& m:Nat):Int)=0)↔M &&& m=0:=by omega
  have c3:(((V &&& m:Nat):Int)=(vv:Int))↔V &&& m=vv:=by omega
  rw [c1,c2,c3]
  exact key
 ·simp only;rw [a.m,em,orU_nat _ _ a.hm hml]
 ·simp only;rw [a.v,evv,orU_nat _ _ a.hv hvl]
 ·exact Nat.or_lt_two_pow (n:=64) (by simpa using a.hm) (by simpa using hml)
 ·exact Nat.or_lt_two_pow (n:=64) (by simpa using a.hv) (by simpa using hvl)
 ·apply Nat.eq_of_testBit_eq
  intro i
  have b1:=congrArg (fun x=>x.testBit i) a.i
  have b2:=congrArg (fun x=>x.testBit i) hvi
  simp only [Nat.testBit_and] at b1 b2
  simp only [Nat.testBit_and,Nat.testBit_or]
  revert b1 b2
  cases V.testBit i <;> cases M.testBit i <;> cases vv.testBit i <;> cases m.testBit i <;> simp
 ·simp only
  rw [a.m,em,orU_nat _ _ a.hm hml]
  have hp:=mN_pos (s:=s) (f:=f) (by omega)
  rw [hmm] at hp
  have:M ||| m≠0:=fun e=>hp (by
   apply Nat.eq_of_testBit_eq
   intro i
   have:=congrArg (fun x=>x.testBit i) e
   simp only [Nat.testBit_or,Nat.zero_testBit,Bool.or_eq_false_iff] at this
   rw [this.2,Nat.zero_testBit])
  have h3:¬ (((M ||| m:Nat):Int)=0):=by omega
  simpa using h3
 ·intro g' hg' s' f' es' ef'
  have hold:=a.r g' hg' s' f' es' ef'
  rcases pair_ne p hg hg' with rfl | hap
  ·right
   have e1:s'=s:=by omega
   have e2:f'=f:=by omega
   subst e1;subst e2
   rw [hmm]
   apply Nat.eq_of_testBit_eq
   intro i
   simp only [Nat.testBit_and,Nat.testBit_or]
   cases M.testBit i <;> cases m.testBit i <;> simp
  ·have hz:=mN_apart (s:=s) (f:=f) (s':=s') (f':=f') (by omega)
   rw [hmm] at hz
   have e:(M ||| m) &&& mN s' f'=M &&& mN s' f':=by
    apply Nat.eq_of_testBit_eq
    intro i
    have hzi:=congrArg (fun x=>x.testBit i) hz
    simp only [Nat.testBit_and,Nat.zero_testBit] at hzi
    simp only [Nat.testBit_and,Nat.testBit_or]
    revert hzi
    cases M.testBit i <;> cases m.testBit i <;> cases (mN s' f').testBit i <;> simp
   rw [e]
   exact hold
end Go.Proofs.Ytjehibknlmehmaa
namespace Go.Proofs.Ytjehibknlmehmaa
open Go.Ab
attribute [-simp] eAlloc_d eStore_f
def WrS (n0 b:Nat) (xr:AV) (bk:Bk) (xq xb xd:AV) (yl:List (Dfn×AV)) (rs:List (Row×AV)) (n:Nat):Prop:=
 ∀ (h:AH) (M:Nat->Prop) (R:AE->AH->Prop) (a:Nat) (w:Wsh) (M0 V0:Nat) (xo xp:AV) (l:OL),WI bk w M0 V0->RW n0 h b xr bk xq xb xd yl l 0 0 false xo xp->RT h xr rs->a+n<=rs.length->GO bk (sg rs a n)->(∀ id,SW b xo xp id->M id) ->
  (∀ h',WP n0 xr bk xq xb xd yl b h xo xp h' (doP bk (rs.map (·.1)) w (sg rs a n) l)->Fr h h' (SW b xo xp)->R (.ret (.tup [])) h') ->
  ACalls Try.prog 17 [.ptr b 0,I a,I (a+n),U w.mask,U w.value] h M R
section
variable {W:Nat->Prop} {QR QN:VK} {QE:Nat->VK} {QP:AV->AH->Prop} {h h0:AH} {n0 b vo vr:Nat} {xr xo xp x2:AV} {bk:Bk} {xq xb xd:AV} {yl:List (Dfn×AV)} {l:OL} {rs:List (Row×AV)} {w:Wsh} {M0 V0:Nat} {y:Row×AV} {j kk:Nat} {one:Except Int OL}
structure KW (W:Nat->Prop) (QR QN:VK) (QE:Nat->VK) (QP:AV->AH->Prop) (h0:AH) (n0 b:Nat) (xr xo xp x2:AV) (bk:Bk) (xq xb xd:AV) (yl:List (Dfn×AV)) (l:OL) (rs:List (Row×AV)) (w:Wsh) (M0 V0:Nat) (y:Row×AV) (j:Nat) (one:Except Int OL):Prop where
 sc:SC bk rs
 bp:BkP bk
 dl:bk.ds.length<=100000000
 wi:WI bk w M0 V0
 rw:RW n0 h0 b xr bk xq xb xd yl l 0 0 false xo xp
 rt:RT h0 xr rs
 hy:rs[j]?=some y
 hW:∀ id,SW b xo xp id\/h0.next<=id->W id
 hk:∀ h',WP n0 xr bk xq xb xd yl b h0 xo xp h' one->Fr h0 h' (SW b xo xp)->F17.n1 W QR QN QE QP (.ptr b 0) x2 (U w.mask) (U w.value) (I j) h'
theorem KW.num (k:KW W QR QN QE QP h0 n0 b xr xo xp x2 bk xq xb xd yl l rs w M0 V0 y j one) (f:Fr h0 h fun _=>False) {M:Nat->Prop} {R:AE->AH->Prop} {x0:AV} {a:Arg} (hat:atP bk.qs a=0) (hR:∀ h',Fr h h' (fun _=>False)->R (.ret (I (locP bk.qs a))) h'):ACalls Try.prog 32 [x0,.agg a.enc,xq] h M R:=
 numberR_ok (k.rw.fr0 f).q.toR (by have:=lens k.sc.bf.i.ok;omega) k.sc.bf.i.ok.sq k.sc.bf.i.ok.tq.2 hat hR
theorem KW.numB (k:KW W QR QN QE QP h0 n0 b xr xo xp x2 bk xq xb xd yl l rs w M0 V0 y j one) (f:Fr h0 h fun _=>False) {M:Nat->Prop} {R:AE->AH->Prop} {x0:AV} {a:Arg} (hat:atP bk.bs a=0) (hR:∀ h',Fr h h' (fun _=>False)->R (.ret (I (locP bk.bs a))) h'):ACalls Try.prog 32 [x0,.agg a.enc,xb] h M R:=
 numberR_ok (k.rw.fr0 f).s.toR (by have:=lens k.sc.bf.i.ok;omega) k.sc.bf.i.ok.sb k.sc.bf.i.ok.tb.2 hat hR
theorem F17_use (k:KW W QR QN QE QP h0 n0 b xr xo xp x2 bk xq xb xd yl l rs w M0 V0 y j (applyP bk (rs.map (·.1)) bk.ds.length y.1.name (y.1.args.map (locP bk.qs)) w y.1.place l)) (f:Fr h0 h fun _=>False) (oo:h.obj vo=some (mkO (encW0 w) 7 49)) (or_:h.obj vr=some (mkO (encRA y) 6 42)) (hu:UseN bk bk.ds.length y.1) (hat:∀ a∈y.1.args,atP bk.qs a=0) :
  F17.n9 W QR QN QE QP (.ptr b 0) x2 (U w.mask) (U w.value) (I j) (.ptr vr 0) (.ptr vo 0) h:=by
 have rt:=k.rt.fr0 f
 obtain ⟨ha,hl⟩:=rt.a y (zP k.hy)
 simp only [F17.n9,pFld_ptr,lLd_f,or_,ldk_mk,zG,encRA,zA,zB,cellK_some,ha.len.1,ha.len.2,zH]
 refine mk_ints hl fun x5 h1 hx1 hs1 f1=>?_
 unfold F17.n8 F17.n7
 refine vLoop_of (ι:=Nat×AV) (fun q v h'=>v=[.ptr b 0,x2,U w.mask,U w.value,I j,.ptr vr 0,.ptr vo 0,q.2,I q.1]/\q.1<=y.1.args.length/\Fr h h' (fun _=>False)/\SlL encI 1 3 h' q.2 ((y.1.args.take q.1).map (locP bk.qs))/\InS (h.next<=·) q.2) (fun q=>y.1.args.length - q.1) (0,x5) ⟨rfl,by omega,f1,by simpa using hx1,hs1⟩ ?_
 rintro K ⟨q,x6⟩ v h2 ⟨rfl,hq,f2,hx,hs⟩ step
 simp only at hq hx hs step
 have or2:=f2.ob0 or_
 have ha2:=ha.fr0 f2
 have f02:=f.tr0 f2
 have rw2:=k.rw.fr0 f02
 simp only [F17.g2_,zN,zO,F17.n6,pFld_ptr,lLd_f,or2,ldk_mk,zG,encRA,zA,zB,cellK_some,ha2.len.1,ha2.len.2,zH,pBin_lss]
 by_cases hlt:q < y.1.args.length
 ·have hli:(q:Int) < y.1.args.length:=by omega
  have g1:y.1.args[q]?=some y.1.args[q]:=zJ hlt
  have hmem:=List.getElem_mem hlt
  have htk:y.1.args.take (q+1)=y.1.args.take q++[y.1.args[q]]:=by rw [List.take_add_one,g1];rfl
  generalize y.1.args[q]=a at *
  have w2:IntKind.i64.wrap ((q:Int)+1)=((q+1:Nat):Int):=by rw [wrap_in (by omega) (by omega)];simp
  simp only [zL hli,F17.n5,aIf_b,zD,zF,zC,zI,F17.n4,pFld_ptr,lLd_f,or2,ldk_mk,zG,encRA,zA,zB,cellK_some]
  refine rng_at ha2 Arg.enc_len g1 fun _=>?_
  simp only [pNil_ptr,pFld_ptr,lLd_f,rw2.b,ldk_mk,zG,zA,zB,cellK_some]
  refine ⟨fun _=>False,fun _ h=>h.elim,k.num f02 (hat a hmem) fun h3 f3=>?_⟩
  refine appv (f:=encI) (t:=locP bk.qs a) encI_len (by omega) rfl (by omega) rfl rfl (hx.of_fr f3 fun _ _ h=>h) (fun id off n e=>k.hW id (.inr (zR f.next (hs id off n e)))) (by rw [zZ,yA];omega) fun z h4 hz hzs f4=>?_
  have f24:Fr h h4 fun _=>False:=(f2.tr0 f3).trans (f4.mono fun j ⟨off,n,e⟩=>.inr (hs j off n e))
  simp only [F17.n3,pBin_add,w2]
  refine step (q+1,z) _ h4 (by simp only;omega) ⟨rfl,by simp only;omega,f24,?_,fun id off n e=>zR (f2.tr0 f3).next (hzs id off n e)⟩
  rw [htk,List.map_append]
  exact hz
 ·have hnl:¬ (q:Int) < y.1.args.length:=by omega
  have e:q=y.1.args.length:=by omega
  rw [e,List.take_length] at hx
  simp only [zK hnl,F17.n5,aIf_b,zE,zD,zC,zH,zV,F17.n2,pFld_ptr,lLd_f,or2,ldk_mk,zG,encRA,zA,zB,cellK_some,zN,zO]
  refine var_ld (f2.ob0 oo) rfl fun _=>?_
  refine ⟨SW b xo xp,fun id hs _=>k.hW id (.inl hs),gateS_all (k:=bk.ds.length) k.sc k.dl h2 _ _ y.1.name _ x6 w y.1.place xo xp l rw2 (k.rt.fr0 f02) hx.toR (sep_old (k.rw.fr0 f).x hs) ?_ (fun _ h=>h) fun h3 hw f3=>?_⟩
  ·rcases hu with ⟨u1,u2,_⟩ | ⟨jj,d',u1,u2,u3,u4,u5⟩
   ·exact .inl ⟨u1,u2⟩
   ·exact .inr ⟨jj,d',u1,u2,u3,by simpa using u4,u5⟩
  ·exact k.hk h3 (hw.base f02.next fun id h=>.inl h) (SW.trans (SW.of_fr f02) (fun _ h=>.inl h) f3)
theorem F17_put {o:COp} {xf:AV} (k:KW W QR QN QE QP h0 n0 b xr xo xp x2 bk xq xb xd yl l rs w M0 V0 y j (putP l o y.1.place)) (f:Fr h0 h fun _=>False) (hq:SlR encI 1 3 h xf o.qubits) (sep:Sep xp xf) {K:AV->AH->Prop}
  (hK:K=fun _ h55=>F17.n1 W QR QN QE QP (.ptr b 0) x2 (U w.mask) (U w.value) (I j) h55):aCall Try.prog W 34 [.ptr b 0,.agg (encO (o,xf)),I y.1.place] h K QP:=by
 subst hK
 exact ⟨SW b xo xp,fun id hs _=>k.hW id (.inl hs),putR_ok (k.rw.fr0 f) hq sep (fun _ h=>h) fun h3 hw f3=>k.hk h3 (hw.base f.next fun id h=>.inl h) (SW.trans (SW.of_fr f) (fun _ h=>.inl h) f3)⟩
theorem F17_reset {a:Arg} (hab:y.1.args=[a]) (k:KW W QR QN QE QP h0 n0 b xr xo xp x2 bk xq xb xd yl l rs w M0 V0 y j (putP l (mkOp 3 ByteArray.empty [locP bk.qs a] 0 w) y.1.place)) (f:Fr h0 h fun _=>False) (hvo:h0.next<=vo) (oo:h.obj vo=some (mkO (encW0 w) 7 49)) (or_:h.obj vr=some (mkO (encRA y) 6 42)) (nvr:vr≠vo) (hat:atP bk.qs a=0) :
  F17.n16 W QR QN QE QP (.ptr b 0) x2 (U w.mask) (U w.value) (I j) (.ptr vr 0) (.ptr vo 0) h:=by
 have wo:W vo:=k.hW vo (.inr hvo)
 simp only [F17.n16,pFld_ptr,eStore_f,oo,avC_int,stk_mk,zG]
 refine ⟨⟨wo,rfl,rfl,by simp [encO]⟩,?_⟩
 have f1:Fr h0 (h.put vo 0 [I 3]) fun _=>False:=f.put (.inr hvo)
 have g1:Fr h (h.put vo 0 [I 3]) (·=vo):=Fr.refl.put (.inl rfl)
 have o1:=put_mk (off:=0) (cs:=[I 3]) oo
 generalize h.put vo 0 [I 3]=h1 at *
 have or1:=g1.obj or_ nvr
 obtain ⟨ha,hl⟩:=(k.rt.fr0 f1).a y (zP k.hy)
 rw [hab] at ha
 simp only [F17.n15,pFld_ptr,lLd_f,or1,ldk_mk,zG,encRA,zA,zB,cellK_some]
 refine rng_at (i:=0) ha Arg.enc_len rfl fun _=>?_
 simp only [pNil_ptr,pFld_ptr,lLd_f,(k.rw.fr0 f1).b,ldk_mk,zG,zA,zB,cellK_some]
 refine ⟨fun _=>False,fun _ h=>h.elim,k.num f1 hat fun h2 f2=>?_⟩
 refine bsl_new (cells:=[I (locP bk.qs a)]) ⟨rfl,rfl⟩ fun id h3 f3 hid oid=>?_
 have f03:=f1.tr0 (f2.tr0 f3)
 have o3:=f3.ob0 (f2.ob0 o1)
 simp only [pFld_ptr,eStore_f,o3,show avCells (.sl id 0 1)=some [.sl id 0 1] from rfl,stk_mk,zG]
 refine ⟨⟨wo,rfl,rfl,by simp [encO,putCells]⟩,?_⟩
 have f4:Fr h0 (h3.put vo 2 [.sl id 0 1]) fun _=>False:=f03.put (.inr hvo)
 have g4:Fr h3 (h3.put vo 2 [.sl id 0 1]) (·=vo):=Fr.refl.put (.inl rfl)
 have o4:=put_mk (off:=2) (cs:=[.sl id 0 1]) o3
 generalize h3.put vo 2 [.sl id 0 1]=h4 at *
 have oid4:=g4.obj oid (obj_ne oid o3 (show (3:Nat)≠49 by decide))
 have or4:=g4.obj (f3.ob0 (f2.ob0 or1)) nvr
 simp only [F17.n14]
 refine var_ld o4 rfl fun _=>?_
 simp only [pFld_ptr,lLd_f,or4,ldk_mk,zG,encRA,zA,zB,cellK_some]
 refine F17_put (o:=mkOp 3 ByteArray.empty [locP bk.qs a] 0 w) (xf:=.sl id 0 1) k f4 (.inr (.inr ⟨id,[],false,3,rfl,fun _=>rfl,by rw [oid4];rfl⟩)) ?_ rfl
 refine sep_old k.rw.x fun i off n e=>?_
 cases e
 exact zR (f1.tr0 f2).next hid
end
end Go.Proofs.Ytjehibknlmehmaa
namespace Go.Proofs.Ytjehibknlmehmaa
open Go.Ab
attribute [-simp] eAlloc_d eStore_f
section
variable {W:Nat->Prop} {QR QN:VK} {QE:Nat->VK} {QP:AV->AH->Prop} {h h0:AH} {n0 b vo vr:Nat} {xr xo xp x2:AV} {bk:Bk} {xq xb xd:AV} {yl:List (Dfn×AV)} {l:OL} {rs:List (Row×AV)} {w:Wsh} {M0 V0:Nat} {y:Row×AV} {j kk:Nat} {one:Except Int OL}
theorem F17_meas {a c:Arg} (hab:y.1.args=[a,c]) (k:KW W QR QN QE QP h0 n0 b xr xo xp x2 bk xq xb xd yl l rs w M0 V0 y j (putP l (mkOp 2 ByteArray.empty [locP bk.qs a] (locP bk.bs c) w) y.1.place)) (f:Fr h0 h fun _=>False) (hvo:h0.next<=vo) (oo:h.obj vo=some (mkO (encW0 w) 7 49)) (or_:h.obj vr=some (mkO (encRA y) 6 42)) (nvr:vr≠vo) (hat:atP bk.qs a=0) (hatb:atP bk.bs c=0) :
  F17.n13 W QR QN QE QP (.ptr b 0) x2 (U w.mask) (U w.value) (I j) (.ptr vr 0) (.ptr vo 0) h:=by
 have wo:W vo:=k.hW vo (.inr hvo)
 simp only [F17.n13,pFld_ptr,eStore_f,oo,avC_int,stk_mk,zG]
 refine ⟨⟨wo,rfl,rfl,by simp [encO]⟩,?_⟩
 have f1:Fr h0 (h.put vo 0 [I 2]) fun _=>False:=f.put (.inr hvo)
 have g1:Fr h (h.put vo 0 [I 2]) (·=vo):=Fr.refl.put (.inl rfl)
 have o1:=put_mk (off:=0) (cs:=[I 2]) oo
 generalize h.put vo 0 [I 2]=h1 at *
 have or1:=g1.obj or_ nvr
 obtain ⟨ha,hl⟩:=(k.rt.fr0 f1).a y (zP k.hy)
 rw [hab] at ha
 simp only [F17.n12,pFld_ptr,lLd_f,or1,ldk_mk,zG,encRA,zA,zB,cellK_some]
 refine rng_at (i:=0) ha Arg.enc_len rfl fun _=>?_
 simp only [pNil_ptr,pFld_ptr,lLd_f,(k.rw.fr0 f1).b,ldk_mk,zG,zA,zB,cellK_some]
 refine ⟨fun _=>False,fun _ h=>h.elim,k.num f1 hat fun h2 f2=>?_⟩
 refine bsl_new (cells:=[I (locP bk.qs a)]) ⟨rfl,rfl⟩ fun id h3 f3 hid oid=>?_
 have f03:=f1.tr0 (f2.tr0 f3)
 have o3:=f3.ob0 (f2.ob0 o1)
 simp only [pFld_ptr,eStore_f,o3,show avCells (.sl id 0 1)=some [.sl id 0 1] from rfl,stk_mk,zG]
 refine ⟨⟨wo,rfl,rfl,by simp [encO,putCells]⟩,?_⟩
 have f4:Fr h0 (h3.put vo 2 [.sl id 0 1]) fun _=>False:=f03.put (.inr hvo)
 have g4:Fr h3 (h3.put vo 2 [.sl id 0 1]) (·=vo):=Fr.refl.put (.inl rfl)
 have o4:=put_mk (off:=2) (cs:=[.sl id 0 1]) o3
 generalize h3.put vo 2 [.sl id 0 1]=h4 at *
 have oid4:=g4.obj oid (obj_ne oid o3 (show (3:Nat)≠49 by decide))
 have or4:=g4.obj (f3.ob0 (f2.ob0 or1)) nvr
 obtain ⟨ha4,_⟩:=(k.rt.fr0 f4).a y (zP k.hy)
 rw [hab] at ha4
 simp only [F17.n11,pFld_ptr,lLd_f,or4,ldk_mk,zG,encRA,zA,zB,cellK_some]
 refine rng_at (i:=1) ha4 Arg.enc_len rfl fun _=>?_
 simp only [pNil_ptr,pFld_ptr,lLd_f,(k.rw.fr0 f4).b,ldk_mk,zG,zA,zB,cellK_some]
 refine ⟨fun _=>False,fun _ h=>h.elim,k.numB f4 hatb fun h5 f5=>?_⟩
 have o5:=f5.ob0 o4
 simp only [pFld_ptr,eStore_f,o5,avC_int,stk_mk,zG]
 refine ⟨⟨wo,rfl,rfl,by simp [encO,putCells]⟩,?_⟩
 have f6:Fr h0 (h5.put vo 3 [I (locP bk.bs c)]) fun _=>False:=(f4.tr0 f5).put (.inr hvo)
 have g6:Fr h5 (h5.put vo 3 [I (locP bk.bs c)]) (·=vo):=Fr.refl.put (.inl rfl)
 have o6:=put_mk (off:=3) (cs:=[I (locP bk.bs c)]) o5
 generalize h5.put vo 3 [I (locP bk.bs c)]=h6 at *
 have oid6:=g6.obj (f5.ob0 oid4) (obj_ne (f5.ob0 oid4) o5 (show (3:Nat)≠49 by decide))
 have or6:=g6.obj (f5.ob0 or4) nvr
 simp only [F17.n10]
 refine var_ld o6 rfl fun _=>?_
 simp only [pFld_ptr,lLd_f,or6,ldk_mk,zG,encRA,zA,zB,cellK_some]
 refine F17_put (o:=mkOp 2 ByteArray.empty [locP bk.qs a] (locP bk.bs c) w) (xf:=.sl id 0 1) k f6 (.inr (.inr ⟨id,[],false,3,rfl,fun _=>rfl,by rw [oid6];rfl⟩)) ?_ rfl
 refine sep_old k.rw.x fun i off n e=>?_
 cases e
 exact zR (f1.tr0 f2).next hid
theorem F17_if {g:Reg} (hB:WrS n0 b xr bk xq xb xd yl rs kk) (hgr:regOf bk.bs y.1.name=some g) (hn0:0<=y.1.num) (hn1:g.size < 63->y.1.num < 2 ^ g.size.toNat)
  (k:KW W QR QN QE QP h0 n0 b xr xo xp x2 bk xq xb xd yl l rs w M0 V0 y j (match wishIn w g y.1.num with | none=>.ok l | some w'=>doP bk (rs.map (·.1)) w' (sg rs (j+1) kk) l)) (f:Fr h0 h fun _=>False) (or_:h.obj vr=some (mkO (encRA y) 6 42)) (hj:j+1+kk<=rs.length) (hrw:y.1.rows=kk) (hg:GO bk (sg rs (j+1) kk)) :
  F17.n34 W QR QN QE QP (.ptr b 0) x2 (U w.mask) (U w.value) (I j) (.ptr vr 0) h:=by
 have hlen:=k.rt.n
 have rw1:=k.rw.fr0 f
 have hmem:=List.mem_of_find?_eq_some hgr
 have hs:=k.sc.bf.i.ok.sb g hmem
 have ht:=k.sc.bf.i.ok.tb
 have hnum:=k.sc.nm y (zP k.hy)
 obtain ⟨hask,M',V',hwi⟩:=WI_in k.wi k.sc.bf.i.ok k.bp hmem hn0 hn1 hnum
 simp only [F17.n34,pNil_ptr,pFld_ptr,lLd_f,rw1.b,or_,ldk_mk,zG,encRA,zA,zB,cellK_some]
 refine ⟨fun _=>False,fun _ h=>h.elim,find_ok rw1.s.toR (by have:=lens k.sc.bf.i.ok;omega) (fun hn=>by rw [hgr] at hn;cases hn) fun q g' hq hg'=>?_⟩
 rw [hgr] at hg';cases hg'
 have w64:IntKind.i64.wrap (g.size - 1)=g.size - 1:=wrap_in (by omega) (by omega)
 have b64':IntKind.u64.bits=64:=rfl
 have s0:0<=g.size - 1:=by omega
 have hm:IntKind.u64.wrap (IntKind.u64.wrap (IntKind.u64.wrap (IntKind.u64.wrap (1 * 2 ^ (min (g.size - 1).toNat 64)) * 2) - 1) * 2 ^ (min g.from_.toNat 64))=maskOf g:=by
  unfold maskOf
  have e:IntKind.u64.wrap (IntKind.u64.wrap (1 * 2 ^ (min (g.size - 1).toNat 64)) * 2)=IntKind.u64.wrap (1 * 2 ^ (min g.size.toNat 64)):=by
   obtain ⟨s,es⟩:∃ s:Nat,g.size=s+1:=⟨(g.size - 1).toNat,by omega⟩
   have e1:(g.size - 1).toNat=s:=by omega
   have e2:g.size.toNat=s+1:=by omega
   rw [e1,e2,Nat.min_eq_left (by omega),Nat.min_eq_left (by omega),Int.one_mul,Int.one_mul,Int.pow_succ,pow_cast]
   have h3:2 ^ s<=2 ^ 63:=Nat.pow_le_pow_right (by decide) (by omega)
   have h5:(2:Nat) ^ 63=9223372036854775808:=by decide
   generalize 2 ^ s=P at *
   rw [wrap_u (x:=(P:Int)) (by omega) (by omega)]
  rw [e]
 have hv:IntKind.u64.wrap (IntKind.u64.wrap y.1.num * 2 ^ (min g.from_.toNat 64))=valOf g y.1.num:=rfl
 have w1:∀ x:Int,0<=x/\x<=1000000000->IntKind.i64.wrap x=x:=fun x hx=>wrap_in (by omega) (by omega)
 simp only [F17.n33,pNil_ptr,pFld_ptr,lLd_f,rw1.b,ldk_mk,zG,zA,zB,cellK_some]
 refine rng_fld (k:=2) rw1.s.toR encRg_len hq (by omega) rfl fun _=>?_
 simp only [pBin_sub,w64,pBin_shl,s0,zH,b64']
 have mulU:∀ {t:TypeId} {c:Bool} {x y:Int} {K:AV->Prop},pBin Try.prog .mul t c (U x) (U y) K=K (U (IntKind.u64.wrap (x * y))):=fun {t c x y K}=>by simp [pBin]
 simp only [mulU,pBin_subU,pNil_ptr,pFld_ptr,lLd_f,rw1.b,ldk_mk,zG,zA,zB,cellK_some]
 refine rng_fld (k:=1) rw1.s.toR encRg_len hq (by omega) rfl fun _=>?_
 simp only [pBin_shl,hs.2.1,zH,b64',hm,F17.n32,pFld_ptr,lLd_f,or_,ldk_mk,zG,encRA,zA,zB,cellK_some,pCnv_u,pNil_ptr,rw1.b]
 refine rng_fld (k:=1) rw1.s.toR encRg_len hq (by omega) rfl fun _=>?_
 simp only [pBin_shl,hs.2.1,zH,b64',hv,F17.n31,pBin_andU]
 have eqlU:∀ {t:TypeId} {c:Bool} {x y:Int} {K:AV->Prop},pBin Try.prog .eql t c (U x) (U y) K=K (B (x==y)):=fun {t c x y K}=>by simp [pBin]
 have fin:∀ t,t=((andU w.mask (maskOf g)==0)||(andU w.value (maskOf g)==valOf g y.1.num))->F17.n28 W QR QN QE QP (.ptr b 0) x2 (U w.mask) (U w.value) (I j) (.ptr vr 0) (U (maskOf g)) (U (valOf g y.1.num)) (B t) h:=fun t ht'=>by
  unfold wishIn at k
  cases t with
  | true=>
   have hyes:¬ (andU w.value (maskOf g)≠andU (valOf g y.1.num) w.mask):=by
    rw [hask]
    intro hc
    apply hc
    have:=ht'.symm
    simp only [Bool.or_eq_true,beq_iff_eq] at this
    exact this
   rw [zW hyes] at k
   simp only [F17.n28,aIf_b,zD,zF,zC,zI,pBin_add,w1 ((j:Int)+1) (by omega),pFld_ptr,lLd_f,or_,ldk_mk,zG,encRA,zA,zB,cellK_some,hrw,w1 ((j:Int)+1+kk) (by omega),pBin_orU]
   refine ⟨SW b xo xp,fun id hs _=>k.hW id (.inl hs),hB h _ _ (j+1) ⟨true,orU w.mask (maskOf g),orU w.value (valOf g y.1.num)⟩ M' V' xo xp l hwi rw1 (k.rt.fr0 f) hj hg (fun _ h=>h) fun h3 hw f3=>?_⟩
   exact k.hk h3 (hw.base f.next fun id h=>.inl h) (SW.trans (SW.of_fr f) (fun _ h=>.inl h) f3)
  | false=>
   have hno:andU w.value (maskOf g)≠andU (valOf g y.1.num) w.mask:=by
    rw [hask]
    intro hc
    have:=ht'.symm
    simp only [Bool.or_eq_false_iff,beq_eq_false_iff_ne] at this
    exact hc.elim this.1 this.2
   rw [zX hno] at k
   simp only [F17.n28,aIf_b,zE,zD,zC,zH]
   exact k.hk h ⟨xo,xp,rw1,fun _ h=>.inl h⟩ (SW.of_fr f)
 have fin:=fin _ rfl
 rw [eqlU]
 cases hc:(andU w.mask (maskOf g)==0) with
 | true=>
  rw [hc] at fin
  simpa [-F17.n28,F17.n30,F17.n29] using fin
 | false=>
  rw [hc] at fin
  simp only [F17.n30,aIg_b,zT,zE,zD,zC,zI,pBin_andU,eqlU,F17.n29,pPick_b,if_false]
  simpa [-F17.n28] using fin
end
end Go.Proofs.Ytjehibknlmehmaa
namespace Go.Proofs.Ytjehibknlmehmaa
open Go.Ab
attribute [-simp] eAlloc_d eStore_f
theorem RW.len_eq {n0:Nat} {h:AH} {b:Nat} {xr:AV} {bk:Bk} {xq xb xd:AV} {yl:List (Dfn×AV)} {l l':OL} {pl er pl' er':Int} {many many':Bool} {xo xp xo' xp':AV} (a:RW n0 h b xr bk xq xb xd yl l pl er many xo xp) (a':RW n0 h b xr bk xq xb xd yl l' pl' er' many' xo' xp'):l.length=l'.length:=by
 have h1:=a.opsLen.2 (fun v=>v=I l'.length)
 have h2:=a'.opsLen.2 (fun v=>v=I l'.length)
 have hb:=a.b
 rw [a'.b] at hb
 have hxo:xo'=xo:=by
  have:=congrArg (fun o:Option AO=>(o.map (·.cells)).bind (·[7]?)) hb
  simpa [oBk,mkO] using this
 rw [hxo,h1] at h2
 have h3:=h2.mpr rfl
 have:(l.length:Int)=l'.length:=by injection h3 with h4;injection h4
 omega
section
variable {W:Nat->Prop} {QR QN:VK} {QE:Nat->VK} {QP:AV->AH->Prop} {h h0:AH} {n0 b vo vr:Nat} {xr xo xp x2:AV} {bk:Bk} {xq xb xd:AV} {yl:List (Dfn×AV)} {l:OL} {rs:List (Row×AV)} {w:Wsh} {M0 V0:Nat} {y:Row×AV} {j kk:Nat} {one:Except Int OL}
theorem F17_rep (hB:WrS n0 b xr bk xq xb xd yl rs kk) (k:KW W QR QN QE QP h0 n0 b xr xo xp x2 bk xq xb xd yl l rs w M0 V0 y j (repP (doP bk (rs.map (·.1)) w (sg rs (j+1) kk)) y.1.num.toNat l)) (f:Fr h0 h fun _=>False) (hvr:¬ SW b xo xp vr) (or_:h.obj vr=some (mkO (encRA y) 6 42)) (hj:j+1+kk<=rs.length) (hrw:y.1.rows=kk) (hg:GO bk (sg rs (j+1) kk)) :
  F17.n27 W QR QN QE QP (.ptr b 0) x2 (U w.mask) (U w.value) (I j) (.ptr vr 0) h:=by
 unfold F17.n27 F17.n26
 have hlen:=k.rt.n
 have hnum:=k.sc.nm y (zP k.hy)
 have rw0:=k.rw.fr0 f
 have rt0:=k.rt.fr0 f
 have hk:∀ h',WP n0 xr bk xq xb xd yl b h xo xp h' (repP (doP bk (rs.map (·.1)) w (sg rs (j+1) kk)) y.1.num.toNat l)->Fr h h' (SW b xo xp)->F17.n1 W QR QN QE QP (.ptr b 0) x2 (U w.mask) (U w.value) (I j) h':=fun h' hw f'=>k.hk h' (hw.base f.next fun id h=>.inl h) (SW.trans (SW.of_fr f) (fun _ h=>.inl h) f')
 have hW:∀ id,SW b xo xp id\/h.next<=id->W id:=fun id hid=>k.hW id (hid.imp (fun h=>h) (zR f.next))
 generalize hT:repP (doP bk (rs.map (·.1)) w (sg rs (j+1) kk)) y.1.num.toNat l=T at hk
 refine vLoop_of (ι:=Nat×Except Int OL) (fun q v h'=>v=[.ptr b 0,x2,U w.mask,U w.value,I j,.ptr vr 0,I (y.1.num.toNat - q.1:Nat)]/\q.1<=y.1.num.toNat/\WP n0 xr bk xq xb xd yl b h xo xp h' q.2/\bindP (repP (doP bk (rs.map (·.1)) w (sg rs (j+1) kk)) q.1) q.2=T/\Fr h h' (SW b xo xp)) (fun q=>q.1) (y.1.num.toNat,.ok l) ⟨by simp,zU _,⟨xo,xp,rw0,fun _ h=>.inl h⟩,hT,Fr.refl⟩ ?_
 rintro K ⟨c,res⟩ v h1 ⟨rfl,hc,hw,heq,f1⟩ step
 simp only at hc hw heq step
 have or1:=f1.obj or_ hvr
 have g1:=rw0.tw f1
 simp only [F17.g3_,zN,zO,F17.n25,pFld_ptr,lLd_f,or1,ldk_mk,zG,encRA,zA,zB,cellK_some,pBin_lss]
 cases c with
 | zero=>
  have e1:decide (((y.1.num.toNat - 0:Nat):Int) < y.1.num)=false:=by simp;omega
  have hres:res=T:=by
   rw [<-heq]
   cases res <;> rfl
  rw [hres] at hw
  simp only [e1,F17.n24,aIg_b,zS,zE,zD,zC,zH,F17.n23,pPick_b,if_false,F17.n22,aIf_b,zV,zN,zO]
  exact hk h1 hw f1
 | succ c=>
  have e1:decide (((y.1.num.toNat - (c+1):Nat):Int) < y.1.num)=true:=by simp;omega
  have w1:∀ x:Int,0<=x/\x<=1000000000->IntKind.i64.wrap x=x:=fun x hx=>wrap_in (by omega) (by omega)
  have w3:IntKind.i64.wrap (((y.1.num.toNat - (c+1):Nat):Int)+1)=((y.1.num.toNat - c:Nat):Int):=by rw [wrap_in (by omega) (by omega)];omega
  rcases hw.cases with ⟨l1,xo1,xp1,rfl,rw1,hn1⟩ | ⟨e,l1,xo1,xp1,rfl,rw1⟩
  ·simp only [bind_ok,repP] at heq
   simp only [e1,F17.n24,aIg_b,zS,zD,zF,zC,zI,pNil_ptr,pFld_ptr,lLd_f,rw1.b,ldk_mk,zG,zA,zB,cellK_some,pUn_not,zT,F17.n23,pPick_b,zV,F17.n22,aIf_b,F17.n21,rw1.opsLen.1,rw1.opsLen.2,zH,F17.n20,pBin_add,w1 ((j:Int)+1) (by omega),or1,encRA,hrw,w1 ((j:Int)+1+kk) (by omega)]
   refine ⟨SW b xo1 xp1,fun id hs _=>hW id (hn1 id hs),hB h1 _ _ (j+1) w M0 V0 xo1 xp1 l1 k.wi rw1 (rt0.frR g1) hj hg (fun _ h=>h) fun h2 hw2 f2=>?_⟩
   have f02:Fr h h2 (SW b xo xp):=SW.trans f1 hn1 f2
   have hw2':=WP.base (h:=h) (xo:=xo) (xp:=xp) hw2 f1.next hn1
   obtain ⟨l2,pl2,er2,many2,xo2,xp2,rw2⟩:=hw2.obj
   have hl2:∀ l',doP bk (rs.map (·.1)) w (sg rs (j+1) kk) l1=.ok l'->l'.length=l2.length:=fun l' hl'=>by
    rw [hl'] at hw2
    obtain ⟨xo3,xp3,rw3,_⟩:=hw2
    exact rw3.len_eq rw2
   simp only [F17.n19,pNil_ptr,pFld_ptr,lLd_f,rw2.b,ldk_mk,zG,zA,zB,cellK_some,rw2.opsLen.1,rw2.opsLen.2,zH,pBin_eql]
   by_cases k1:l2.length=l1.length
   ·have k1':((l2.length:Int)==(l1.length:Int))=true:=by rw [k1];simp
    simp only [k1',F17.n18,aIf_b,zD,zF,zC,zI,zV,zN,zO]
    refine hk h2 ?_ f02
    cases hb:doP bk (rs.map (·.1)) w (sg rs (j+1) kk) l1 with
    | ok l'=>
     rw [hb] at heq hw2'
     simp only at heq
     rw [zX (by rw [hl2 l' hb,k1])] at heq
     rw [<-heq];exact hw2'
    | error e=>
     rw [hb] at heq hw2'
     simp only at heq
     rw [<-heq];exact hw2'
   ·have k1':((l2.length:Int)==(l1.length:Int))=false:=by simp;omega
    simp only [k1',F17.n18,aIf_b,zE,zD,zC,zH,F17.n17,pBin_add,w3]
    refine step (c,doP bk (rs.map (·.1)) w (sg rs (j+1) kk) l1) _ h2 (by simp only;omega) ⟨rfl,by simp only;omega,hw2',?_,f02⟩
    cases hb:doP bk (rs.map (·.1)) w (sg rs (j+1) kk) l1 with
    | ok l'=>
     rw [hb] at heq
     simp only at heq
     rw [zW (by rw [hl2 l' hb];exact k1)] at heq
     exact heq
    | error e=>
     rw [hb] at heq
     exact heq
  ·rw [bind_err] at heq
   rw [heq] at hw
   simp only [e1,F17.n24,aIg_b,zS,zD,zF,zC,zI,pNil_ptr,pFld_ptr,lLd_f,rw1.b,ldk_mk,zG,zA,zB,cellK_some,pUn_not,F17.n23,pPick_b,zV,F17.n22,aIf_b,zE,zH,zN,zO]
   exact hk h1 hw f1
end
section
variable {n0 b:Nat} {xr:AV} {bk:Bk} {xq xb xd:AV} {yl:List (Dfn×AV)} {rs:List (Row×AV)}
theorem write_ok (sc:SC bk rs) (bp:BkP bk) (dl:bk.ds.length<=100000000) (n:Nat):WrS n0 b xr bk xq xb xd yl rs n:=by
 induction n using Nat.strongRecOn with
 | ind n ih=>
 intro h M R a w M0 V0 xo xp l wi rw rt hn hg hM hR
 apply F17.callsN
 unfold F17.n53 F17.n52
 have hlen:=rt.n
 generalize hT:doP bk (rs.map (·.1)) w (sg rs a n) l=T at hR
 refine vLoop_of (ι:=Nat×Except Int OL) (fun q v h'=>v=[.ptr b 0,I (a+n),U w.mask,U w.value,I (a+(n - q.1:Nat):Int)]/\q.1<=n/\WP n0 xr bk xq xb xd yl b h xo xp h' q.2/\GO bk (sg rs (a+(n - q.1)) q.1)/\bindP (doP bk (rs.map (·.1)) w (sg rs (a+(n - q.1)) q.1)) q.2=T/\Fr h h' (SW b xo xp)) (fun q=>q.1) (n,.ok l) ⟨by simp,zU _,⟨xo,xp,rw,fun _ h=>.inl h⟩,by simpa using hg,by simpa [bind_ok] using hT,Fr.refl⟩ ?_
 rintro K ⟨m,res⟩ v h1 ⟨rfl,hm,hw,hg2,heq,f1⟩ step
 simp only at hm hw hg2 heq step
 have rt1:=rt.frR (rw.tw f1)
 have fin:WP n0 xr bk xq xb xd yl b h xo xp h1 T->retV Try.prog [] R [] h1:=fun hw'=>by
  have:=hR h1 hw' f1
  simpa [retV,aResV,tupOf] using this
 unfold F17.g1_
 simp only [zN,zO,F17.n51,pBin_lss]
 cases m with
 | zero=>
  have e1:decide ((a:Int)+(n - 0:Nat) < a+n)=false:=by simp
  have hres:res=T:=by
   rw [<-heq,sg_0]
   cases res with
   | error e=>rfl
   | ok l=>rw [bind_ok,doP_nil]
  rw [hres] at hw
  simp only [e1,F17.n50,aIg_b,zS,zE,zD,zC,zH,F17.n49,pPick_b,if_false,F17.n48,aIf_b,zV]
  exact fin hw
 | succ m=>
  obtain ⟨j,hj⟩:∃ j,j=a+(n - (m+1)):=⟨_,rfl⟩
  have ej:(a:Int)+(n - (m+1):Nat)=(j:Int):=by omega
  have e1:decide ((j:Int) < a+n)=true:=by simp;omega
  rw [<-hj] at heq hg2
  obtain ⟨y,hy⟩:∃ y,rs[j]?=some y:=⟨rs[j]'(by omega),zJ _⟩
  rw [sg_s hy] at heq hg2
  obtain ⟨⟨b0,b1⟩,go,gt,gd⟩:=hg2.inv
  rw [sg_len (by omega)] at b1
  obtain ⟨kk,hkk⟩:∃ kk:Nat,y.1.rows=kk:=⟨y.1.rows.toNat,by omega⟩
  have hkm:kk<=m:=by omega
  rw [hkk,zY,sg_take hkm] at gt
  rw [hkk,zY,sg_drop] at gd
  have w1:∀ x:Int,0<=x/\x<=1000000000->IntKind.i64.wrap x=x:=fun x hx=>wrap_in (by omega) (by omega)
  rcases hw.cases with ⟨l1,xo1,xp1,rfl,rw1,hn1⟩ | ⟨e,l1,xo1,xp1,rfl,rw1⟩
  ·rw [bind_ok,doP_cons,hkk,zY,sg_take hkm,sg_drop] at heq
   simp only [e1,ej,F17.n50,aIg_b,zS,zD,zF,zC,zI,pNil_ptr,pFld_ptr,lLd_f,rw1.b,ldk_mk,zG,zA,zB,cellK_some,pUn_not,zT,F17.n49,pPick_b,zV,F17.n48,aIf_b,F17.n47]
   have hWb:∀ id,SW b xo1 xp1 id\/h1.next<=id->(M id\/h.next<=id):=fun id hid=>by
    rcases hid with hid | hid
    ·rcases hn1 id hid with h' | h'
     ·exact .inl (hM id h')
     ·exact .inr h'
    ·exact .inr (zR f1.next hid)
   refine rng_var rt1.r encRA_len (rt1.one hy) hy rfl rfl (fun id hid=>hWb id (.inr hid)) fun vr h3 f3 hvr or3=>?_
   simp only [F17.n46,pBin_neqU]
   refine ⟨encW0 w,by simp [aFill,putCells,avC_int,avC_bool,encO,wi.b];rfl,?_⟩
   refine new_var (cs:=encW0 w) rfl rfl rfl rfl (fun id hid=>hWb id (.inr (zR f3.next hid))) fun vo h4 f4 hvo oo=>?_
   have f34:=f3.tr0 f4
   have or4:=f4.ob0 or3
   have nvr:vr≠vo:=fun e=>by have:=h3.lt _ _ or3;omega
   have hvo1:h1.next<=vo:=zR f3.next hvo
   have kw:KW (fun id=>M id\/h.next<=id) (retV Try.prog [] R) K (fun (i:Nat) (vs:List AV) (h:AH)=>if i=0 then retV Try.prog [] R vs h else False) (fun v h=>R (.pan v) h) h1 n0 b xr xo1 xp1 (I (a+n)) bk xq xb xd yl l1 rs w M0 V0 y j (oneP bk (rs.map (·.1)) w y.1 (sg rs (j+1) kk) l1):=by
    refine ⟨sc,bp,dl,wi,rw1,rt1,hy,hWb,fun h' hw' f'=>?_⟩
    generalize oneP bk (rs.map (·.1)) w y.1 (sg rs (j+1) kk) l1=res' at *
    obtain ⟨l2,pl2,er2,many2,xo2,xp2,rw2⟩:=hw'.obj
    have f04:Fr h h' (SW b xo xp):=SW.trans f1 hn1 f'
    simp only [F17.n1,pNil_ptr,pFld_ptr,lLd_f,rw2.b,ldk_mk,zG,zA,cellK_some]
    refine rng_fld (k:=4) (rt.frR (rw.tw f04)).r encRA_len hy (by omega) rfl fun _=>?_
    rw [hkk]
    simp only [pBin_add,w1 (1+(kk:Int)) (by omega),w1 ((j:Int)+(1+kk)) (by omega)]
    have e8:j+1+kk=a+(n - (m - kk)):=by omega
    have e9:(j:Int)+(1+kk)=a+(n - (m - kk):Nat):=by omega
    rw [e8] at heq gd
    exact step (m - kk,res') _ h' (by simp only;omega) ⟨by rw [<-e9],by simp only;omega,hw'.base f1.next (fun id hid=>hn1 id hid),gd,heq,f04⟩
   clear heq step
   have e4:(⟨#[114,101,112,101,97,116]⟩:ByteArray)=sRepeat:=rfl
   have e5:(⟨#[105,102]⟩:ByteArray)=sIf:=rfl
   have e6:(⟨#[117,115,101]⟩:ByteArray)=sUse:=rfl
   have e7:(⟨#[109,101,97,115,117,114,101]⟩:ByteArray)=sMeasure:=rfl
   have e8:(⟨#[114,101,115,101,116]⟩:ByteArray)=sReset:=rfl
   unfold oneP at kw
   simp only [F17.n45,pFld_ptr,lLd_f,or4,ldk_mk,zG,encRA,zA,zB,cellK_some,F17.n44,pBin_seql,e6]
   by_cases k3:y.1.kind=sUse
   ·have n1:¬ y.1.kind=sRepeat:=by rw [k3];decide
    have n2:¬ y.1.kind=sIf:=by rw [k3];decide
    rw [zW n1,zW n2,zX k3] at kw
    simp only [zL k3,F17.n43,aIf_b,zD,zF,zC,zI]
    exact F17_use kw f34 oo or4 (go.u k3).1 (go.u k3).2
   simp only [zK k3,F17.n43,aIf_b,zE,zD,zC,zH,F17.n42,pBin_seql,e7]
   by_cases k4:y.1.kind=sMeasure
   ·have n1:¬ y.1.kind=sRepeat:=by rw [k4];decide
    have n2:¬ y.1.kind=sIf:=by rw [k4];decide
    rw [zW n1,zW n2,zW k3,zX k4] at kw
    obtain ⟨x,z,hxz,h0,h1'⟩:=go.m k4
    rw [hxz] at kw
    simp only [zL k4,F17.n41,aIf_b,zD,zF,zC,zI]
    exact F17_meas hxz kw f34 hvo1 oo or4 nvr h0 h1'
   simp only [zK k4,F17.n41,aIf_b,zE,zD,zC,zH,F17.n40,pBin_seql,e8]
   by_cases k5:y.1.kind=sReset
   ·have n1:¬ y.1.kind=sRepeat:=by rw [k5];decide
    have n2:¬ y.1.kind=sIf:=by rw [k5];decide
    rw [zW n1,zW n2,zW k3,zW k4,zX k5] at kw
    obtain ⟨x,hx,h0⟩:=go.s k5
    rw [hx] at kw
    simp only [zL k5,F17.n39,aIf_b,zD,zF,zC,zI]
    exact F17_reset hx kw f34 hvo1 oo or4 nvr h0
   simp only [zK k5,F17.n39,aIf_b,zE,zD,zC,zH,F17.n38,pBin_seql,e4]
   by_cases k1:y.1.kind=sRepeat
   ·rw [zX k1] at kw
    simp only [zL k1,F17.n37,aIf_b,zD,zF,zC,zI]
    exact F17_rep (ih kk (by omega)) kw f34 (rw1.fresh hvr) or4 (by omega) hkk (gt (.inl k1))
   rw [zW k1] at kw
   simp only [zK k1,F17.n37,aIf_b,zE,zD,zC,zH,F17.n36,pBin_seql,e5]
   by_cases k2:y.1.kind=sIf
   ·rw [zX k2] at kw
    obtain ⟨g,hgr,g0,g1⟩:=go.i k2
    rw [hgr] at kw
    simp only [zL k2,F17.n35,aIf_b,zD,zF,zC,zI]
    exact F17_if (ih kk (by omega)) hgr g0 g1 kw f34 or4 (by omega) hkk (gt (.inr k2))
   rw [zW k2,zW k3,zW k4,zW k5] at kw
   simp only [zK k2,F17.n35,aIf_b,zE,zD,zC,zH]
   exact kw.hk h4 ⟨xo1,xp1,rw1.fr0 f34,fun _ h=>.inl h⟩ (SW.of_fr f34)
  ·rw [bind_err] at heq
   rw [heq] at hw
   simp only [e1,ej,F17.n50,aIg_b,zS,zD,zF,zC,zI,pNil_ptr,pFld_ptr,lLd_f,rw1.b,ldk_mk,zG,zA,zB,cellK_some,pUn_not,F17.n49,pPick_b,zV,F17.n48,aIf_b,zE,zH]
   exact fin hw
end
end Go.Proofs.Ytjehibknlmehmaa
namespace Go.Proofs.Ytjehibknlmehmaa
open Go.Ab
attribute [-simp] eAlloc_d eStore_f
theorem checkGo_lt {q b:Int}:∀ {l:List COp} {i:Nat} {n:Int},(checkGo q b l i n).2≠0->(checkGo q b l i n).1 < i+l.length
 | [],i,n,h=>by simp [checkGo] at h
 | o::l,i,n,h=>by
  unfold checkGo at h ⊢
  split
  ·simp;omega
  ·rename_i h1
   split
   ·simp;omega
   ·rename_i h2
    rw [zW h1,zW h2] at h
    have:=checkGo_lt h
    simp only [List.length_cons];omega
theorem checkP_lt {q b:Int} {l:List COp} (hq:0<=q/\q<=64) (hb:0<=b/\b<=64) (hl:l.length<=4096) (h:(checkP q b l).2≠0):(checkP q b l).1 < l.length:=by
 unfold checkP at h ⊢
 rw [zW (by omega),zW (by omega)] at h ⊢
 have:=checkGo_lt h
 omega
theorem rowP_dl {bk bk':Bk} {own:Option Nat} {i:Int} {r:Row} (a:BkI bk) (hl:r.args.length<=100000000) (h:rowP bk own i r=.ok bk'):bk'.ds.length<=bk.ds.length+1:=by
 obtain ⟨_,_,_,g2,g3⟩:=rowP_ok a hl h
 by_cases k:r.kind=sGate
 ·rw [g3 k];simp
 ·rw [g2 k];omega
theorem lookP_dl (n:Nat):∀ {deep:Nat} {own:Option Nat} {i:Nat} {rows:List Row} {bk bk':Bk} (_:rows.length=n) (_:∀ r∈rows,r.args.length<=100000000) (_:BkI bk) (_:lookP deep own i rows bk=.ok bk'),bk'.ds.length<=bk.ds.length+rows.length:=by
 induction n using Nat.strongRecOn with
 | ind n ih=>
 intro deep own i rows bk bk' hn hl a h
 cases rows with
 | nil=>rw [lookP_nil] at h;cases h;simp
 | cons r rest=>
  rw [lookP_cons] at h
  split at h
  ·cases h
  rename_i hf
  obtain ⟨_,_,f1,f2,_⟩:=formP_0 (Classical.not_not.1 hf)
  split at h
  ·cases h
  rename_i bk1 h1
  split at h
  ·cases h
  rename_i bk2 h2
  rw [List.length_cons] at hn
  have d1:=rowP_dl a (hl r (List.mem_cons_self ..)) h1
  obtain ⟨a1,_⟩:=rowP_ok a (hl r (List.mem_cons_self ..)) h1
  have hl1:∀ r'∈rest.take r.rows.toNat,r'.args.length<=100000000:=fun r' hr=>hl r' (List.mem_cons_of_mem _ (List.mem_of_mem_take hr))
  have hl2:∀ r'∈rest.drop r.rows.toNat,r'.args.length<=100000000:=fun r' hr=>hl r' (List.mem_cons_of_mem _ (List.mem_of_mem_drop hr))
  have d2:=ih _ (by rw [yA];omega) rfl hl1 a1 h2
  obtain ⟨a2,_,s2⟩:=lookP_ok _ rfl hl1 a1 h2
  rw [yA] at d2
  rw [List.length_cons]
  by_cases k:r.kind=sGate
  ·rw [zX k] at h
   have d3:=ih _ (by rw [List.length_drop];omega) rfl hl2 (closed_ok a2 s2).1 h
   rw [List.length_drop] at d3
   simp only [setWhole,List.length_modify] at d3
   omega
  ·rw [zW k] at h
   have d3:=ih _ (by rw [List.length_drop];omega) rfl hl2 a2 h
   rw [List.length_drop] at d3
   omega
section
variable {h:AH} {M:Nat->Prop} {R:AE->AH->Prop} {xr:AV} {rs:List (Row×AV)}
theorem flatR_ok (rt:RT h xr rs) (hn:∀ y∈rs,y.1.num<=9223372036854775807)
  (hR:∀ xo yl h',FlatA h' (flatP (rs.map (·.1))) xo yl->Fr h h' (fun _=>False)->R (.ret (.tup [.agg [I (flatP (rs.map (·.1))).q,I (flatP (rs.map (·.1))).b,xo],I (flatP (rs.map (·.1))).at_,I (flatP (rs.map (·.1))).err])) h'):ACalls Try.prog 9 [xr] h M R:=by
 apply F9.callsN
 unfold F9.n18
 have hv:=AH.alloc_new h (mkO ([Value.int .i64 0,.int .i64 0,.slice none 0 0].map AV.sc) 3 27)
 rw [eAlloc_d]
 refine ⟨rfl,?_⟩
 have f1:Fr h (h.alloc (mkO ([Value.int .i64 0,.int .i64 0,.slice none 0 0].map AV.sc) 3 27)) (fun _=>False):=Fr.refl.alloc _
 generalize h.alloc (mkO ([Value.int .i64 0,.int .i64 0,.slice none 0 0].map AV.sc) 3 27)=h1 at *
 obtain ⟨v,hvn⟩:∃ v,v=h.next:=⟨_,rfl⟩
 rw [<-hvn] at hv ⊢
 have ov:h1.obj v=some (mkO [I 0,I 0,nilS] 3 27):=hv
 have rt1:=rt.fr0 f1
 have hx:=rt1.r.one
 unfold F9.n17
 refine ⟨[xr,nilS,nilS,nilS,I 0,I 0,B false,nilS,nilS],by simp [aFill,putCells,hx.2],?_⟩
 refine box_var (by show (oneA xr&&_)=true;rw [hx.1];rfl) fun b h2 f2 hbn ob=>?_
 have f02:=f1.tr0 f2
 have rt2:=rt.fr0 f02
 have hvn1:v < h1.next:=h1.lt _ _ ov
 generalize hn0:h1.next=n0 at *
 have nxt:h.next<=n0:=by have:=f1.next;omega
 have toF:∀ {T:TypeId->Bool} {a b:AH},Fr h a (fun _=>False)->Fr a b (TW T n0 a)->Fr h b fun _=>False:=fun fa fb=>fa.trans (fb.mono fun id hid=>.inr (zR nxt hid.1))
 have ov2:h2.obj v=some (mkO [I 0,I 0,nilS] 3 27):=f2.ob0 ov
 have Wv:∀ id,n0<=id->(M id\/v<=id):=fun id hid=>.inr (by omega)
 have rb:RB n0 h2 b xr bk0 0 0 nilS nilS nilS []:=⟨⟨hbn,(fun _ _ _ e=>by cases e),(fun _ _ _ e=>by cases e),(fun _ _ _ e=>by cases e)⟩,ob,.nil,.nil,⟨.nil,rfl,(fun _ h=>by cases h)⟩,fun _ _ _ _ _ e=>by cases e⟩
 have hvb:v≠b:=by omega
 have er:(rs.length:Int)=((0:Nat):Int)+(rs.length:Int):=by simp
 have hall:sg rs 0 rs.length=rs.map (·.1):=by unfold sg;simp
 have hL:∀ r∈rs.map (·.1),r.args.length<=100000000:=fun r hr=>by
  obtain ⟨z,hz,rfl⟩:=List.mem_map.1 hr
  exact (rt.a z hz).2
 have fin:∀ {h':AH} {xo:AV} {yl:List (COp×AV)},h'.obj v=some (mkO [I (flatP (rs.map (·.1))).q,I (flatP (rs.map (·.1))).b,xo] 3 27)->FlatA h' (flatP (rs.map (·.1))) xo yl->Fr h h' (fun _=>False) ->
   retV Try.prog [.cell 2 27,.tmp 3,.tmp 4] R [.ptr v 0,I (flatP (rs.map (·.1))).at_,I (flatP (rs.map (·.1))).err] h':=fun ho ha hf=>F10_ret ho (hR _ _ _ ha hf)
 have zero:∀ {h':AH} {a e:Int},flatP (rs.map (·.1))=⟨0,0,[],a,e⟩->h'.obj v=some (mkO [I 0,I 0,nilS] 3 27)->Fr h h' (fun _=>False)->retV Try.prog [.cell 2 27,.tmp 3,.tmp 4] R [.ptr v 0,I a,I e] h':=fun {h' a e} he ho hf=>by
  have:=fin (h':=h') (xo:=nilS) (yl:=[])
  rw [he] at this
  exact this ho ⟨⟨.inl ⟨rfl,rfl⟩,(fun _ h=>by cases h)⟩,rfl,(fun _ h=>by cases h),by simp⟩ hf
 have putv:∀ {h':AH} {x y z:AV},h'.obj v=some (mkO [I 0,I 0,nilS] 3 27)->(h'.put v 0 [x,y,z]).obj v=some (mkO [x,y,z] 3 27):=fun ho=>by rw [put_mk ho];rfl
 have fput:∀ {h':AH} {cs:List AV},Fr h h' (fun _=>False)->Fr h (h'.put v 0 cs) fun _=>False:=fun hf=>hf.put (.inr (by omega))
 have bd0:BkD bk0:=fun _ h=>by cases h
 simp only [F9.n16,rt2.r.len.1,rt2.r.len.2,zH]
 rw [er]
 refine ⟨TW TB n0 h2,fun id hs _=>Wv id hs.1,lookR_ok rs.length (a:=0) (deep:=0) (own:=none) (bk:=bk0) rb rt2 bkF0 bd0 (by decide) (fun k h=>by cases h) (by omega) (by omega) (fun _ h=>h) ?_ ?_⟩
 ·intro pl e h3 hl be f3
  rw [hall] at hl
  obtain ⟨cs,hb3,c4,c5⟩:=be
  have f03:=toF f02 f3
  have ov3:h3.obj v=some (mkO [I 0,I 0,nilS] 3 27):=TW.obj f3 ov2 rfl
  have hfl:flatP (rs.map (·.1))=⟨0,0,[],pl,e⟩:=by
   unfold flatP
   rw [show (⟨[],[],[]⟩:Bk)=bk0 from rfl,hl]
  simp only [pUn_not,zT,F9.n15,aIf_b,zD,zF,zC,zI,F9.n14]
  refine ⟨fun _=>b,fun _ _=>by rw [hb3];simp,⟨_,bld27,?_⟩⟩
  simp only [pNil_ptr,pFld_ptr,lLd_f,hb3,ldk_mk,zG,c4,c5,cellK_some,zH,eStore_f,ov3,avC_agg,stk_mk]
  refine ⟨⟨⟨.inr (by omega),fun _ _=>hvb⟩,rfl,rfl,by simp⟩,?_⟩
  simp only [F9.n13]
  exact zero hfl (putv ov3) (fput f03)
 ·intro bk xq xb xd yl h3 hl rb3 f3
  rw [hall] at hl
  have f03:=toF f02 f3
  have ov3:h3.obj v=some (mkO [I 0,I 0,nilS] 3 27):=TW.obj f3 ov2 rfl
  have rt3:=rt.fr0 f03
  obtain ⟨bf,_,_,hgood⟩:=lookP_good hL rs.length (deep:=0) (own:=none) (i:=0) (bk:=bk0) (bk':=bk) (by simp) bkF0 (fun k h=>by cases h) (by rw [<-sgR_sg,hall];exact hl)
  obtain ⟨hgo,_,hdk⟩:=hgood bk Mono.refl bf
  have hgo:=hgo rfl
  rw [<-sgR_sg] at hgo
  have sc:SC bk rs:=⟨bf,fun k d hd=>hdk k (Nat.zero_le _) (zM.1 hd).1 d hd,hn⟩
  have bp:BkP bk:=lookP_P _ rfl hL bkF0.i .nil hl
  have dl:bk.ds.length<=100000000:=by
   have:=lookP_dl _ rfl hL bkF0.i hl
   have h3:=rt.n
   simp only [zZ] at this
   have h4:bk0.ds.length=0:=rfl
   omega
  have rw3:RW n0 h3 b xr bk xq xb xd yl [] 0 0 false nilS nilS:=⟨⟨rb3.n.1,(fun _ _ _ e=>by cases e),(fun _ _ _ e=>by cases e)⟩,rb3.b,rb3.q,rb3.s,rb3.d,.nil,⟨[],.nil,rfl,(fun _ h=>by cases h)⟩,by simp⟩
  simp only [pUn_not,zS,F9.n15,aIf_b,zE,zD,zC,zH,F9.n12,rt3.r.len.1,rt3.r.len.2]
  rw [er]
  refine ⟨SW b nilS nilS,fun id hs _=>?_,write_ok sc bp dl rs.length h3 _ _ 0 ⟨false,0,0⟩ 0 0 nilS nilS [] WI_0 rw3 rt3 (by simp) hgo (fun _ h=>h) fun h4 hw f4'=>?_⟩
  ·rcases hs with rfl | ⟨_,_,e⟩ | ⟨_,_,e⟩
   ·exact Wv _ hbn
   ·cases e
   ·cases e
  have f4:=rw3.tw f4'
  have f04:=toF f03 f4
  have ov4:h4.obj v=some (mkO [I 0,I 0,nilS] 3 27):=TW.obj f4 ov3 rfl
  rw [hall] at hw
  rcases hw.cases with ⟨l,xo,xp,hd,rw4,_⟩ | ⟨e,l,xo,xp,hd,rw4⟩
  ·have lg:LG l:=doP_LG hL _ ⟨⟨by decide,by decide⟩,⟨by decide,by decide⟩⟩ rfl (fun _ h=>h) hd (fun _ h=>by cases h)
   obtain ⟨ol,o1,o2,o3⟩:=rw4.o
   have hops:OpsL h4 xo ol:=⟨o1.toR,fun y hy=>(o3 y hy).1⟩
   have hog:∀ y∈ol,OG y.1:=fun y hy=>by
    have:y.1∈l.map (·.1):=by rw [<-o2];exact List.mem_map_of_mem hy
    obtain ⟨x,hx,e⟩:=List.mem_map.1 this
    rw [<-e];exact lg x hx
   have hyl:ol.length<=4096:=by
    have:=congrArg List.length o2
    have:=rw4.len
    simp only [zZ] at *;omega
   have ok:=bf.i.ok
   have hlen2:=lens ok
   have hfl:flatP (rs.map (·.1))=if (checkP (totalR bk.qs) (totalR bk.bs) (l.map (·.1))).2≠0 then ⟨0,0,[],(match l[(checkP (totalR bk.qs) (totalR bk.bs) (l.map (·.1))).1.toNat]? with | some x=>x.2 | none=>0),(checkP (totalR bk.qs) (totalR bk.bs) (l.map (·.1))).2⟩ else ⟨totalR bk.qs,totalR bk.bs,l.map (·.1),0,0⟩:=by
    conv=>lhs;unfold flatP
    rw [show (⟨[],[],[]⟩:Bk)=bk0 from rfl,hl]
    simp only [hd]
    all_goals rfl
   have follow:∀ v6 h5,Fr h4 h5 (fun _=>False)->h5.obj v6=some (mkO [I (totalR bk.qs),I (totalR bk.bs),xo] 3 27)->F9.n6 (fun id=>M id\/v<=id) (retV Try.prog [.cell 2 27,.tmp 3,.tmp 4] R) (retV Try.prog [.cell 2 27,.tmp 3,.tmp 4] R) (fun _ _ _=>False) (fun v h=>R (.pan v) h) (.ptr v 0) (.ptr b 0) (.ptr v6 0) h5:=fun v6 h5 f5 o6=>by
    simp only [F9.n6]
    refine var_ld o6 rfl fun _=>?_
    refine ⟨fun _=>False,fun _ h=>h.elim,refCheck_ok (hops.fr0 f5) (fun y hy=>zR (hog y hy).1 (by decide)) fun h6 f6=>?_⟩
    have hmok:∀ o∈ol.map (·.1),MOK o:=fun o ho=>by
     obtain ⟨y,hy,rfl⟩:=List.mem_map.1 ho
     exact (hog y hy).2
    rw [check_same hmok,o2]
    have f06:=f04.tr0 (f5.tr0 f6)
    have f56:=f5.tr0 f6
    have rw6:=rw4.fr0 f56
    have ov6:=f56.ob0 ov4
    have hops6:=hops.fr0 f56
    have hnn:=checkP_nn (q:=totalR bk.qs) (b:=totalR bk.bs) (l:=l.map (·.1))
    have hlt:=checkP_lt (q:=totalR bk.qs) (b:=totalR bk.bs) (l:=l.map (·.1)) ok.tq ok.tb (by rw [zZ];exact rw4.len)
    rw [zZ] at hlt
    generalize checkP (totalR bk.qs) (totalR bk.bs) (l.map (·.1))=c at *
    obtain ⟨c1,c2⟩:=c
    simp only at hfl hnn hlt
    simp only [res2,pExt_tup,zA,zB,cellK_some,F9.n5,pBin_neq]
    by_cases k1:c2=0
    ·rw [zW (by simpa using k1)] at hfl
     have k1':(c2 != 0)=false:=by simp [k1]
     simp only [k1',F9.n4,aIf_b,zE,zD,zC,zH,F9.n1]
     refine var_ld (f6.ob0 o6) rfl fun _=>?_
     simp only [eStore_f,ov6,avC_agg,stk_mk]
     have hx:=hops6.tab.one.1
     refine ⟨⟨.inr (by omega),by show (true&&(true&&(oneA xo&&true)))=true;rw [hx];rfl,rfl,by simp⟩,?_⟩
     have:=fin (h':=h6.put v 0 [I (totalR bk.qs),I (totalR bk.bs),xo]) (xo:=xo) (yl:=ol)
     rw [hfl] at this
     have fv:Fr h6 (h6.put v 0 [I (totalR bk.qs),I (totalR bk.bs),xo]) (·=v):=Fr.refl.put (.inl rfl)
     refine this (putv ov6) ⟨⟨hops6.tab.fr fv fun id o ho ht e=>?_,fun y hy=>(hops6.qs y hy).fr fv fun id o ho ht e=>?_⟩,o2,hog,hyl⟩ (fput f06)
     ·subst e;rw [ov6] at ho;cases ho;exact absurd (ht rfl) (show (27:Nat)≠49 by decide)
     ·subst e;rw [ov6] at ho;cases ho;exact absurd (ht rfl) (show (27:Nat)≠3 by decide)
    ·rw [zX k1] at hfl
     have k1':(c2 != 0)=true:=by simpa using k1
     have k2:=hlt k1
     obtain ⟨x,hx⟩:∃ x,l[c1.toNat]?=some x:=⟨l[c1.toNat]'(by omega),zJ _⟩
     rw [hx] at hfl
     simp only [k1',F9.n4,aIf_b,zD,zF,zC,zI,F9.n3]
     rcases rw6.x with ⟨_,e0⟩ | ⟨ix,rfl,hox⟩
     ·have:l=[]:=by simpa using e0
      subst this
      simp at k2;omega
     ·have hvx:v≠ix:=obj_ne ov6 hox (show (27:Nat)≠3 by decide)
      have hcell:((l.map (·.2)).flatMap encI)[c1.toNat]?=some (I x.2):=by
       have:=flat_get (f:=encI) (k:=1) encI_len (l.map (·.2)) c1.toNat 0 (by omega)
       rw [Nat.mul_one,Nat.add_zero,List.getElem?_map,hx] at this
       exact this
      refine ⟨fun i=>if i=4 then b else ix,fun i _=>by show h6.obj (if i=4 then b else ix)≠none;split <;> simp [rw6.b,hox],⟨_,bld27,?_⟩⟩
      simp only [pNil_ptr,pFld_ptr,lLd_f,rw6.b,ldk_mk,zG,zA,zB,cellK_some,zV,zH,pIxA_sl,hox,Nat.mul_one,hcell,zZ]
      refine ⟨⟨by omega,by omega⟩,by simp,?_⟩
      simp only [eStore_f,ov6,avC_agg,stk_mk]
      refine ⟨⟨⟨.inr (by omega),fun i _=>by show v≠(if i=4 then b else ix);split;exact hvb;exact hvx⟩,rfl,rfl,by simp⟩,?_⟩
      simp only [F9.n2]
      exact zero hfl (putv ov6) (fput f06)
   have tq:∀ {h5:AH} {M5:Nat->Prop} {R5:AE->AH->Prop},Fr h4 h5 (fun _=>False)->R5 (.ret (I (totalR bk.qs))) h5->ACalls Try.prog 18 [xq] h5 M5 R5:=fun f5 hr=>total_ok (rw4.fr0 f5).q.toR (fun r hr=>by have:=ok.sq r hr;omega) ok.tq.2 (by omega) hr
   have tb:∀ {h5:AH} {M5:Nat->Prop} {R5:AE->AH->Prop},Fr h4 h5 (fun _=>False)->R5 (.ret (I (totalR bk.bs))) h5->ACalls Try.prog 18 [xb] h5 M5 R5:=fun f5 hr=>total_ok (rw4.fr0 f5).s.toR (fun r hr=>by have:=ok.sb r hr;omega) ok.tb.2 (by omega) hr
   have hx:=hops.tab.one
   have bld:aFill (fun i=>[(0,1),(1,1),(2,1)][i]?) ([Value.int .i64 0,.int .i64 0,.slice none 0 0].map .sc) [(0,I (totalR bk.qs)),(1,I (totalR bk.bs)),(2,xo)]=some [I (totalR bk.qs),I (totalR bk.bs),xo]:=by simp [aFill,putCells,avC_int,hx.2]
   have hone:[I (totalR bk.qs),I (totalR bk.bs),xo].all oneA=true:=by show (true&&(true&&(oneA xo&&true)))=true;rw [hx.1];rfl
   have late:∀ h5,Fr h4 h5 (fun _=>False)->∀ v6,h4.next<=v6->h5.obj v6=some (mkO ([Value.int .i64 0,.int .i64 0,.slice none 0 0].map AV.sc) 3 27)->eStore (some 3) (.ptr v6 0) (.agg [I (totalR bk.qs),I (totalR bk.bs),xo]) h5 (fun id=>M id\/v<=id) fun h45=>F9.n6 (fun id=>M id\/v<=id) (retV Try.prog [.cell 2 27,.tmp 3,.tmp 4] R) (retV Try.prog [.cell 2 27,.tmp 3,.tmp 4] R) (fun _ _ _=>False) (fun v h=>R (.pan v) h) (.ptr v 0) (.ptr b 0) (.ptr v6 0) h45:=fun h5 f5 v6 hv6 o6=>by
    have hn4:=f04.next
    simp only [eStore_f,o6,avC_agg,stk_mk]
    refine ⟨⟨.inr (by omega),hone,rfl,by simp⟩,?_⟩
    refine follow v6 _ (f5.put (.inr hv6)) ?_
    rw [put_mk o6];rfl
   simp only [F9.n11,pNil_ptr,pFld_ptr,lLd_f,rw4.b,ldk_mk,zG,zA,zB,cellK_some,F9.n10,aIf_b,zE,zD,zC,zH,F9.n7,zI]
   have hn4:=f04.next
   refine ⟨⟨fun _=>False,fun _ h=>h.elim,tq Fr.refl ⟨⟨fun _=>False,fun _ h=>h.elim,tb Fr.refl ⟨_,bld,?_⟩⟩,?_⟩⟩,?_⟩
   ·exact new_var hone rfl rfl rfl (fun id hid=>.inr (by omega)) fun v6 h5 f5 _ o6=>follow v6 h5 f5 o6
   ·rw [eAlloc_d]
    refine ⟨rfl,⟨fun _=>False,fun _ h=>h.elim,tb (Fr.refl.alloc _) ⟨_,bld,?_⟩⟩⟩
    exact late _ (Fr.refl.alloc _) _ (zU _) (AH.alloc_new _ _)
   ·rw [eAlloc_d]
    refine ⟨rfl,⟨fun _=>False,fun _ h=>h.elim,tq (Fr.refl.alloc _) ⟨fun _=>False,fun _ h=>h.elim,tb (Fr.refl.alloc _) ⟨_,bld,?_⟩⟩⟩⟩
    exact late _ (Fr.refl.alloc _) _ (zU _) (AH.alloc_new _ _)
  ·have hfl:flatP (rs.map (·.1))=⟨0,0,[],e,115⟩:=by
    unfold flatP
    rw [show (⟨[],[],[]⟩:Bk)=bk0 from rfl,hl]
    simp only [hd]
   simp only [F9.n11,pNil_ptr,pFld_ptr,lLd_f,rw4.b,ldk_mk,zG,zA,zB,cellK_some,F9.n10,aIf_b,zD,zF,zC,zI,F9.n9]
   refine ⟨fun _=>b,fun _ _=>by rw [rw4.b];simp,⟨_,bld27,?_⟩⟩
   simp only [pNil_ptr,pFld_ptr,lLd_f,rw4.b,ldk_mk,zG,zA,zB,cellK_some,zH,eStore_f,ov4,avC_agg,stk_mk]
   refine ⟨⟨⟨.inr (by omega),fun _ _=>hvb⟩,rfl,rfl,by simp⟩,?_⟩
   simp only [F9.n8]
   exact zero hfl (putv ov4) (fput f04)
end
end Go.Proofs.Ytjehibknlmehmaa
