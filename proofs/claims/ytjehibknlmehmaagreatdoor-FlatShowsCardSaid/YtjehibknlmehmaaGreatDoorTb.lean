/- The rows of a circuit; both Shows tell the same. No condition. -/
import Derived.Test.YtjehibknlmehmaaGreatDoorTa
set_option maxRecDepth 100000
namespace Go.Proofs.YtjehibknlmehmaaGreatDoor
section
open Go.Ab
attribute [-simp] aN aD
section
variable {α:Type} {f:α->List AV} {sz bytes:Nat} {ty:TypeId} {h:AH} {W:Nat->Prop}
theorem Vx{K:AV->AH->Prop}{x v:AV}{l m:List α}(hf:∀x,(f x).length=sz)(hb:bytes<=1024)(hl:bw f sz ty h x l)(hm:bw f sz ty h v m)(hw:cz W x)(hn:l.length+m.length<=100000000)
  (hK:∀y h',bw f sz ty h' y (l++m)->(y=x\/cz (h.next<=·) y)->Fr h h' (fun i=>∃off n,x=.sl i off n)->K y h'):dV (some (sz,bytes,ty)) x v h W K:=by
 have wB:(m.flatMap f).length=m.length*sz:=fR hf m
 have A6:(l.flatMap f).length=l.length*sz:=fR hf l
 have wA:(l.length+m.length)*bytes<=140737488355328:=by
  have:(l.length+m.length)*bytes<=100000000*1024:=Nat.mul_le_mul hn hb
  omega
 have hv:news sz v h m.length (m.flatMap f):=by
  rcases hm with⟨rfl,rfl⟩ |⟨id,rfl,ho⟩
  ·exact⟨rfl,rfl⟩
  ·refine .inr ⟨by simp,_,ho,rfl,by simp[aO,wB],?_⟩
   simp only[aO,List.drop_zero]
   rw[List.take_of_length_le (by omega)]
 refine⟨m.length,m.flatMap f,hv,?_⟩
 rcases hl with⟨rfl,rfl⟩ |⟨id,rfl,ho⟩
 ·show if m.length=0 then _ else _
  by_cases h0:m.length=0
  ·rw[zX h0]
   have:m=[]:=List.length_eq_zero_iff.1 h0
   subst this
   exact hK aV h .nil (.inl rfl) Fr.refl
  ·rw[zW h0]
   refine⟨⟨by omega,by simpa using wA⟩,?_⟩
   refine hK _ _ (.inr ⟨h.next,by simp,by rw[AH.cK];simp[aO]⟩) (.inr fun i of n e=>by cases e;exact zU _) (Fr.refl.alloc _)
 ·show if m.length=0 then _ else _
  by_cases h0:m.length=0
  ·rw[zX h0]
   have:m=[]:=List.length_eq_zero_iff.1 h0
   subst this
   exact hK _ h (.inr ⟨id,by simp,by simpa using ho⟩) (.inl rfl) Fr.refl
  ·rw[zW h0]
   have hid:=h.lt _ _ ho
   refine⟨rfl,_,⟨hw _ _ _ rfl,ho,rfl,rfl,rfl,rfl,by simp[aO,A6],by omega,wA⟩,?_⟩
   refine hK _ _ (.inr ⟨h.next,by simp,?_⟩) (.inr fun i of n e=>by cases e;exact zU _) ?_
   ·rw[AH.b9,zX (by simp[AH.fU])]
    simp only[aO]
    rw[List.take_of_length_le (by omega),List.flatMap_append]
   ·refine⟨by simp only[AH.bU,AH.fU];omega,fun i hi cC=>?_⟩
    rw[AH.alloc_old (by simp only[AH.fU];omega),AH.rr fun e=>cC ⟨_,_,by rw[e]⟩]
end
def rG(aq:List (Int×Int))(o:bI):List Row:=kc (dU o (bS aq))++[ee o aq]
def fP(q:Int)(aq:List (Int×Int)):List Row:=(if 0<q then[⟨aX,bs [113],[],q,0,0⟩] else[])++(bS aq).map fun y=>⟨bK,bs (iM y.1),[],y.2.2,0,0⟩
def iP(aq:List (Int×Int)):List bI->Option (List Row)
 |[]=>some []
 |o::l=>if 32<(dU o (bS aq)).length then none else(iP aq l).map (rG aq o++·)
theorem rH{aq:List (Int×Int)}:∀{l m:List bI},iP aq (l++m)=(iP aq l).bind fun a=>(iP aq m).map (a++·)
 |[],m=>by simp[iP]
 |o::l,m=>by
  simp only[List.cons_append,iP,rH (l:=l)]
  split
  ·rfl
  ·cases iP aq l<;>cases iP aq m<;>simp
end
section
open Go.Ab
attribute [-simp] aN aD
section
variable {W:Nat->Prop} {QR QN:VK} {QE:Nat->VK} {QP:AV->AH->Prop} {h0 h:AH} {R:AE->AH->Prop} {vc:Nat} {q b:Int} {x x7 xr:AV} {yl:List (bI×AV)} {aq:List (Int×Int)}
structure SH (W:Nat->Prop) (h0 h:AH) (vc:Nat) (q b:Int) (x xr:AV) (yl:List (bI×AV)) (aq:List (Int×Int)):Prop where
 oc:h.obj vc=some (aO [I q,I b,x] 3 24)
 x:kN h x yl
 r:cf na 3 48 h xr (bS aq)
 W:∀id,h0.next<=id->W id
 f:Fr h0 h (fun _=>False)
theorem SH.fr{h':AH}{S:Nat->Prop}(d:SH W h0 h vc q b x xr yl aq)(f:Fr h h' S)(hs:∀i,S i->h0.next<=i/\∀cs sz ty ro kd,h.obj i=some { cells:=cs,sz:=sz,ty:=ty,ro:=ro,kind:=kd }->ro=false/\ty≠24/\ty≠38/\ty≠3/\ty≠48):SH W h0 h' vc q b x xr yl aq:=by
 refine⟨f.obj d.oc fun e=>((hs _ e).2 _ _ _ _ _ d.oc).2.1 rfl,⟨d.x.dy.fr f fun i ob ho ht e=>?_,fun y hy=>(d.x.qs y hy).fr f fun i ob ho ht e=>?_⟩,d.r.fr f fun i ob ho ht e=>?_,d.W,lc d.f f fun i hi=>(hs i hi).1⟩
 ·obtain⟨a,_,c,_⟩:=(hs _ e).2 _ _ _ _ _ (show h.obj i=some { cells:=ob.cells,sz:=ob.sz,ty:=ob.ty,ro:=ob.ro,kind:=ob.kind } from ho)
  exact c (ht a)
 ·obtain⟨a,_,_,c,_⟩:=(hs _ e).2 _ _ _ _ _ (show h.obj i=some { cells:=ob.cells,sz:=ob.sz,ty:=ob.ty,ro:=ob.ro,kind:=ob.kind } from ho)
  exact c (ht a)
 ·obtain⟨a,_,_,_,c⟩:=(hs _ e).2 _ _ _ _ _ (show h.obj i=some { cells:=ob.cells,sz:=ob.sz,ty:=ob.ty,ro:=ob.ro,kind:=ob.kind } from ho)
  exact c (ht a)
theorem SH.bp{h':AH}(d:SH W h0 h vc q b x xr yl aq)(f:Fr h h' fun _=>False):SH W h0 h' vc q b x xr yl aq:=d.fr f fun _ h=>h.elim
theorem SH.mw{h':AH}{α:Type}{f:α->List AV}{L:List α}(d:SH W h0 h vc q b x xr yl aq)(hS:bw f 6 46 h x7 L)(hI:cz (h0.next<=·) x7)(fr:Fr h h' (fun i=>∃off n,x7=.sl i off n)):SH W h0 h' vc q b x xr yl aq:=by
 refine d.fr fr fun i ⟨off,n,e⟩=>⟨hI i _ _ e,fun cs sz ty ro kd ho=>?_⟩
 rcases hS with⟨e2,_⟩ |⟨j,e2,hj⟩
 ·rw[e2]at e;cases e
 ·rw[e2]at e;cases e
  rw[hj]at ho;cases ho
  exact⟨rfl,by decide,by decide,by decide,by decide⟩
theorem xS{k s:ByteArray}{n:Int}:dS (fun i=>[(0,1),(1,1),(2,1),(3,1),(4,1),(5,1)][i]?) ([Value.string ⟨#[]⟩,.string ⟨#[]⟩,.slice none 0 0,.int .i64 0,.int .i64 0,.int .i64 0].map .sc) [(0,Sb k),(1,Sb s),(3,I n)]=some [Sb k,Sb s,aV,I n,I 0,I 0]:=rfl
def Io(q:Int):Row:=⟨aX,bs [113],[],q,0,0⟩
def uQ(y:Nat×(Int×Int)):Row:=⟨bK,bs (iM y.1),[],y.2.2,0,0⟩
theorem Sd(d:SH W h0 h vc q b x xr yl aq)(mR:aq.length<=64)
  (hR:∀x7 h',SH W h0 h' vc q b x xr yl aq->bw ew 6 46 h' x7 (fP q aq)->cz (h0.next<=·) x7->F6.bz W QR QN QE QP (.ptr vc 0) xr x7 h') :
  F6.cj W QR QN QE QP (.ptr vc 0) xr h:=by
 have loop:∀(A:List Row)(x7:AV)(h:AH),A.length<=1->SH W h0 h vc q b x xr yl aq->bw ew 6 46 h x7 A->cz (h0.next<=·) x7->fP q aq=A++(bS aq).map uQ->F6.bY W QR QN QE QP (.ptr vc 0) xr x7 h:=fun A x7 h hA d hS hI Hq=>by
  unfold F6.bY F6.bZ
  refine bX (ι:=Nat×AV) (fun s v h'=>v=[.ptr vc 0,xr,s.2,I s.1]/\s.1<=aq.length/\SH W h0 h' vc q b x xr yl aq/\bw ew 6 46 h' s.2 (A++((bS aq).take s.1).map uQ)/\cz (h0.next<=·) s.2) (fun s=>aq.length-s.1) (0,x7) ⟨rfl,by omega,d,by simpa using hS,hI⟩ ?_
  clear d hS hI
  rintro K ⟨k,x7⟩ v h' ⟨rfl,hk,d,hS,hI⟩ step
  simp only at hk d hS hI
  have w3:IntKind.i64.wrap ((k:Int)+1)=((k+1:Nat):Int):=by rw[aL (by omega) (by omega)];simp
  simp only[F6.fI,zN,zO,F6.bD,d.r.len.1,d.r.len.2,zH,dX,ba]
  by_cases aM:k<aq.length
  ·have dh:(k:Int)<aq.length:=by omega
   have g0:aq[k]?=some aq[k]:=zJ aM
   generalize aq[k]=g at *
   have oX:(bS aq)[k]?=some (k,g):=by rw[jv,g0];rfl
   have fG:(bS aq).take (k+1)=(bS aq).take k++[(k,g)]:=by rw[List.take_add_one,oX];rfl
   simp only[zL dh,F6.bG,ao,zD,zF,zC,zI]
   unfold F6.bE
   refine dC (k:=0) d.r fS oX (by omega) rfl fun _=>?_
   refine dC (k:=2) d.r fS oX (by omega) rfl fun _=>?_
   refine⟨_,xS (k:=bK),?_⟩
   refine mP (f:=ew) (sz:=6) (bytes:=80) (ty:=46) (z:=[.string ⟨#[]⟩,.string ⟨#[]⟩,.slice none 0 0,.int .i64 0,.int .i64 0,.int .i64 0]) (t:=uQ (k,g)) kh (by omega) rfl pr (by decide) hS (fun i of n e=>d.W i (hI i of n e)) (by rw[List.length_append,zZ,yA];omega) fun v y h3 iT lr f3=>?_
   simp only[F6.bC,aR,w3]
   refine step (k+1,y) _ _ (by show _<_;omega) ⟨rfl,by show k+1<=_;omega,d.mw hS hI f3,?_,fun i of n e=>zR d.f.next (lr i of n e)⟩
   show bw ew 6 46 h3 y (A++((bS aq).take (k+1)).map uQ)
   rw[fG,List.map_append,<-List.append_assoc];exact iT
  ·have mS:k=aq.length:=by omega
   have df:¬((k:Int)<aq.length):=by omega
   rw[mS,List.take_of_length_le (by rw[dX];omega),<-Hq]at hS
   simp only[zK df,F6.bG,ao,zE,zD,zC,zH,zV,zN,zO]
   exact hR x7 h' d hS hI
 unfold F6.cj F6.bW
 refine eH d.oc rfl fun _=>?_
 simp only[dZ,gt_iff_lt]
 by_cases hq:0<q
 ·simp only[zL hq,F6.bT,ao,zD,zF,zC,zI]
  refine eH d.oc rfl fun _=>?_
  refine⟨_,xS (k:=aX) (s:=bs [113]),?_⟩
  refine mP (f:=ew) (sz:=6) (bytes:=80) (ty:=46) (z:=[.string ⟨#[]⟩,.string ⟨#[]⟩,.slice none 0 0,.int .i64 0,.int .i64 0,.int .i64 0]) (t:=Io q) kh (by omega) rfl pr (by decide) .nil (fun i of n e=>by cases e) (by simp) fun v y h3 iT lr f3=>?_
  refine loop [Io q] y h3 (by simp) (d.fr f3 fun i ⟨_,_,e⟩=>by cases e) (by simpa using iT) (fun i of n e=>zR d.f.next (lr i of n e)) ?_
  unfold fP;rw[zX hq];rfl
 ·simp only[zK hq,F6.bT,ao,zE,zD,zC,zH]
  refine loop [] aV h (by simp) d .nil (fun _ _ _ e=>by cases e) ?_
  unfold fP;rw[zW hq];rfl
end
end
section
open Go.Ab
attribute [-simp] aN aD
structure Gg (b:Int) (o:bI):Prop where
 ql:o.az.length<=100
 bit:0<=o.bit/\o.bit<=100
 m:o.kind=2->(0<=o.bit/\o.bit<b)/\∃q0,o.az=[q0]
structure LY (b:Int) (aq:List (Int×Int)):Prop where
 cov:jW aq 0 b
 len:aq.length<=64
 g:∀g∈aq,0<=g.1/\g.1<=100/\1<=g.2/\g.2<=32
structure TL (h0 h:AH) (x:AV) (l:List (Row×AV)):Prop where
 dy:bw au 6 46 h x l
 args:∀y∈l,bw Arg.enc 2 67 h y.2 y.1.args
 new:cz (h0.next<=·) x
theorem TL.rows{h0 h:AH}{x:AV}{l:List (Row×AV)}(t:TL h0 h x l):jq h x l:=⟨t.dy.fl,fun y hy=>(t.args y hy).fl⟩
theorem TL.bp{h0 h h':AH}{x:AV}{l:List (Row×AV)}(t:TL h0 h x l)(f:Fr h h' fun _=>False):TL h0 h' x l:=⟨jz t.dy f fun _ _ _ h=>h,fun y hy=>jz (t.args y hy) f fun _ _ _ h=>h,t.new⟩
theorem rI{L:List Row}:(kc L).length=L.length:=by simp[kc]
theorem CK{L:List Row}(h:∀r∈L,r.args=[]):∀r∈kc L,r.args=[]:=by
 intro r hr
 simp only[kc,List.mem_mapIdx]at hr
 obtain⟨i,hi,e⟩:=hr
 subst e
 exact h L[i] (List.getElem_mem hi)
theorem CZ{o:bI}{L:List (Nat×(Int×Int))}:∀r∈dU o L,r.args=[]:=by
 intro r hr
 simp only[dU,List.mem_map]at hr
 obtain⟨y,_,e⟩:=hr
 subst e;rfl
section
variable {W:Nat->Prop} {QR QN:VK} {QE:Nat->VK} {QP:AV->AH->Prop} {h0 h:AH} {R:AE->AH->Prop} {vc:Nat} {q b b':Int} {x x7 xr:AV} {yl:List (bI×AV)} {aq:List (Int×Int)}
theorem VM{L0:List (Row×AV)}(d:SH W h0 h vc q b x xr yl aq)(t:TL h0 h x7 L0)(wK:L0.length<=65)(ET:yl.length<=4096)(rg:LY b' aq)(ho:∀y∈yl,Gg b' y.1)
  (hN:iP aq (yl.map (·.1))=none->∀h',Fr h0 h' (fun _=>False)->QR [S [],I 102] h')
  (hY:∀A l x7 h',iP aq (yl.map (·.1))=some A->SH W h0 h' vc q b x xr yl aq->TL h0 h' x7 l->l.map (·.1)=L0.map (·.1)++A->l.length<=200000->F6.n9 W QR QN QE QP x7 h') :
  F6.bz W QR QN QE QP (.ptr vc 0) xr x7 h:=by
 unfold F6.bz F6.bu
 refine bX (ι:=Nat×AV×List (Row×AV)×List Row) (fun s v h'=>v=[.ptr vc 0,xr,s.2.1,I s.1]/\s.1<=yl.length/\SH W h0 h' vc q b x xr yl aq/\TL h0 h' s.2.1 s.2.2.1/\iP aq ((yl.map (·.1)).take s.1)=some s.2.2.2/\s.2.2.1.map (·.1)=L0.map (·.1)++s.2.2.2/\s.2.2.1.length<=65+33*s.1) (fun s=>yl.length-s.1) (0,x7,L0,[]) ⟨rfl,by omega,d,t,rfl,by simp,by simpa using wK⟩ ?_
 clear d t
 rintro K ⟨k,x7,l,A⟩ v h' ⟨rfl,hk,d,t,hA,hl,hn⟩ step
 simp only at hk d t hA hl hn
 have w3:IntKind.i64.wrap ((k:Int)+1)=((k+1:Nat):Int):=by rw[aL (by omega) (by omega)];simp
 simp only[F6.cn,zN,zO]
 unfold F6.bg
 refine eH d.oc rfl fun _=>?_
 simp only[d.x.dy.len.1,d.x.dy.len.2,zH,ba]
 by_cases aM:k<yl.length
 ·have dh:(k:Int)<yl.length:=by omega
  have g0:yl[k]?=some yl[k]:=zJ aM
  have lC:=List.getElem_mem aM
  generalize yl[k]=y at *
  have oh:=ho y lC
  have fG:(yl.map (·.1)).take (k+1)=(yl.map (·.1)).take k++[y.1]:=by rw[List.take_add_one,List.getElem?_map,g0];rfl
  have C5:yl.map (·.1)=(yl.map (·.1)).take k++(y.1::(yl.map (·.1)).drop (k+1)):=by
   conv=>lhs;rw[<-List.take_append_drop (k+1) (yl.map (·.1)),fG]
   simp
  simp only[zL dh,F6.aZ,ao,zD,zF,zC,zI]
  unfold F6.bj
  refine eH d.oc rfl fun _=>?_
  refine ll d.x.dy hG g0 fun _=>?_
  obtain⟨q0,EV,hq1⟩:∃q0,(y.1.kind=2->y.1.az[0]?=some q0)/\(y.1.kind=2->y.1.az=[q0]):=by
   by_cases k2:y.1.kind=2
   ·obtain⟨q0,e⟩:=(oh.m k2).2
    exact⟨q0,fun _=>by rw[e];rfl,fun _=>e⟩
   ·exact⟨0,fun h=>absurd h k2,fun h=>absurd h k2⟩
  refine⟨fun _=>False,fun _ h=>h.elim,Gu (q0:=q0) (d.x.qs y lC) d.r oh.ql rg.len rg.g oh.bit EV fun xo xa h1 sN qh YD yu f1=>?_⟩
  have kE:qw y.1 q0 (bS aq)=ee y.1 aq:=Gt rg.cov (fun k2=>(oh.m k2).1) hq1
  rw[kE]at sN YD
  have wE:=rQ (o:=y.1) (L:=bS aq)
  rw[dX]at wE
  have mR:=rg.len
  have iF:((kc (dU y.1 (bS aq))).map (fun r=>(r,aV))++[(ee y.1 aq,xa)]).length=(dU y.1 (bS aq)).length+1:=by simp[rI]
  have Nh:((kc (dU y.1 (bS aq))).map (fun r=>(r,aV))++[(ee y.1 aq,xa)]).map (·.1)=rG aq y.1:=by simp[rG,List.map_map,Function.comp_def]
  have d1:=d.bp f1
  have t1:=t.bp f1
  have w1:IntKind.i64.wrap ((((kc (dU y.1 (bS aq))).map (fun r=>(r,aV))++[(ee y.1 aq,xa)]).length:Int)-1)=((dU y.1 (bS aq)).length:Int):=by rw[iF,aL (by omega) (by omega)];omega
  show F6.bn W _ _ _ _ _ _ _ _ xo h1
  unfold F6.bn
  simp only[sN.fl.len.1,sN.fl.len.2,zH,eX,w1,dZ,gt_iff_lt]
  by_cases c:(32:Int)<((dU y.1 (bS aq)).length:Int)
  ·have c':32<(dU y.1 (bS aq)).length:=by omega
   have q8:iP aq (yl.map (·.1))=none:=by
    rw[C5,rH,hA]
    simp only[Option.bind_some,iP,zX c',Option.map_none]
   simp only[zL c,F6.a_,ao,zD,zF,zC,zI,F6.aQ]
   exact hN q8 h1 d1.f
  ·have c':¬32<(dU y.1 (bS aq)).length:=by omega
   simp only[zK c,F6.a_,ao,zE,zD,zC,zH]
   unfold F6.aU
   refine Vx eF (by decide) t1.dy sN (fun i of n e=>d.W i (t1.new i of n e)) (by omega) fun z h2 mo hz f2=>?_
   simp only[F6.aP,aR,w3]
   have gT:∀i cs,h1.obj i=some (aO cs 2 67)->¬ ∃off n,x7=.sl i off n:=fun i cs hi ⟨off,n,e⟩=>by
    rcases t1.dy with⟨e2,_⟩ |⟨j,e2,hj⟩
    ·rw[e2]at e;cases e
    ·rw[e2]at e;cases e
     rw[hj]at hi;injection hi with hi;injection hi with _ _ hi;exact absurd hi (show(46:Nat)≠67 by decide)
   refine step (k+1,z,l++((kc (dU y.1 (bS aq))).map (fun r=>(r,aV))++[(ee y.1 aq,xa)]),A++rG aq y.1) _ _ (by show _<_;omega) ⟨rfl,by show k+1<=_;omega,d1.mw t1.dy t1.new f2,⟨mo,fun w hw=>?_,?_⟩,?_,?_,?_⟩
   ·rcases List.mem_append.1 hw with hw |hw
    ·exact jz (t1.args w hw) f2 gT
    ·rcases List.mem_append.1 hw with hw |hw
     ·simp only[List.mem_map]at hw
      obtain⟨r,hr,e⟩:=hw
      subst e
      show bw Arg.enc 2 67 h2 aV r.args
      rw[CK CZ r hr];exact .nil
     ·simp only[List.mem_singleton]at hw
      subst hw
      exact jz YD f2 gT
   ·rcases hz with e |hz
    ·rw[e];exact t1.new
    ·exact fun i of n e=>zR d1.f.next (hz i of n e)
   ·show iP aq ((yl.map (·.1)).take (k+1))=_
    rw[fG,rH,hA]
    simp[iP,c']
   ·show List.map (·.1) (l++_)=_
    rw[List.map_append,hl,Nh,List.append_assoc]
   ·show(l++_).length<=65+33*(k+1)
    rw[List.length_append,iF];omega
 ·have mS:k=yl.length:=by omega
  have df:¬((k:Int)<yl.length):=by omega
  rw[mS,List.take_of_length_le (by rw[zZ];omega)]at hA
  simp only[zK df,F6.aZ,ao,zE,zD,zC,zH,zV,zN,zO]
  exact hY A l x7 h' hA d t hl (by omega)
end
end
section
open Go.Ab
attribute [-simp] aN aD
section
variable {W:Nat->Prop} {QR QN:VK} {QE:Nat->VK} {QP:AV->AH->Prop} {h:AH} {x7:AV} {l:List (Row×AV)}
theorem Sc(hx:jq h x7 l)(hB:∀y∈l,lG y.1)(hl:l.length<=1000000)(hT:cw 0 (l.map (·.1))=true->(eS [] (l.map (·.1))).length<=1000000000000)
  (hR:∀h',Fr h h' (fun _=>False)->QR (ig (l.map (·.1))) h'):F6.n9 W QR QN QE QP x7 h:=by
 unfold F6.n9
 refine⟨fun _=>False,fun _ h=>h.elim,Il hx hB hl hT fun h1 f1=>?_⟩
 have:=hR h1 f1
 show cl (.cM (ig (l.map (·.1)))) 0 fun t9=>cl (.cM (ig (l.map (·.1)))) 1 fun t10=>F6.n8 W QR QN QE QP t9 t10 h1
 have key:(∃s:List UInt8,s.length<=65536/\ig (l.map (·.1))=[S s,I 0])\/ig (l.map (·.1))=[S [],I 1]\/ig (l.map (·.1))=[S [],I 100]:=by
  unfold ig
  by_cases c1:cw 0 (l.map (·.1))=true
  ·rw[zX c1]
   by_cases c2:(eS [] (l.map (·.1))).length<=65536
   ·rw[zX c2];exact .inl ⟨_,c2,rfl⟩
   ·rw[zW c2];exact .inr (.inl rfl)
  ·rw[zW c1];exact .inr (.inr rfl)
 generalize ig (l.map (·.1))=r at *
 rcases key with⟨s,hs,rfl⟩ |rfl |rfl
 ·have h3:¬(65536:Int)<(s.length:Int):=by omega
  have gZ:(bs s).size=s.length:=by simp[bs,ByteArray.size]
  simp[F6.n8,F6.n7,F6.n6,F6.n5,F6.n4,F6.n3,F6.n1,gZ,h3,this]
 ·simpa[F6.n8,F6.n7,F6.n6,F6.n5,F6.n4,F6.n3,F6.n2] using this
 ·simpa[F6.n8,F6.n7,F6.n6,F6.n5,F6.n4,F6.n3,F6.n1] using this
end
end
section
open Go.Ab
attribute [-simp] aN aD
theorem LF:∀{l:List (Int×Int)}{a b:Int},jW l a b->∀g∈l,a<=g.1/\g.1+g.2<=b
 |[],_,_,_,g,hg=>by cases hg
 |y::l,a,b,h,g,hg=>by
  obtain⟨h1,h2,h3⟩:=h
  have h4:=jW.le h3
  rcases List.mem_cons.1 hg with e |hg
  ·subst e;exact⟨by omega,by omega⟩
  ·have:=LF h3 g hg
   exact⟨by omega,by omega⟩
theorem zs{ops:List bI}{b:Int}(hb:0<=b/\b<=64):LY b (bN ops b.toNat):=by
 have hc:=Dv ops b.toNat
 have e:((b.toNat:Nat):Int)=b:=by omega
 rw[e]at hc
 refine⟨hc,by have:=(sY ops b.toNat).1;omega,fun g hg=>?_⟩
 have h1:=LF hc g hg
 have h2:=uL ops b.toNat g hg
 omega
def st(q b:Int)(ops:List bI):Option (List Row):=(iP (bN ops b.toNat) ops).map (fP q (bN ops b.toNat)++·)
def nB(e q b:Int)(ops:List bI):List AV:=if e≠0 then[S [],I e] else match st q b ops with
 |none=>[S [],I 102]
 |some r=>ig r
structure OU (q b:Int) (ops:List bI):Prop where
 bR:0<=b/\b<=64
 len:ops.length<=4096
 op:∀o∈ops,Gg b o
 rows:∀r,st q b ops=some r->(∀y∈r,lG y)/\(cw 0 r=true->(eS [] r).length<=1000000000000)
section
variable {h:AH} {M:Nat->Prop} {R:AE->AH->Prop} {q b:Int} {x:AV} {yl:List (bI×AV)}
theorem Gv(hx:kN h x yl)(ln:∀y∈yl,y.1.az.length<=9223372036854775807)(cS:(oK q b (yl.map (·.1))).2=0->OU q b (yl.map (·.1)))
  (hR:∀h',Fr h h' (fun _=>False)->R (.ret (.cM (nB (oK q b (yl.map (·.1))).2 q b (yl.map (·.1))))) h'):ay Pg 6 [.agg [I q,I b,x]] h M R:=by
 apply F6.aI
 unfold F6.eh
 refine cW (cs:=[I q,I b,x]) (by show(true&&(true&&(cB x&&true)))=true;rw[hx.dy.one.1];rfl) fun vc h1 f1 tN oc=>?_
 unfold F6.dH
 refine dN oc rfl fun _=>?_
 refine⟨fun _=>False,fun _ h=>h.elim,Gz (hx.bp f1) ln fun h2 f2=>?_⟩
 have cu:=f1.bO f2
 have yY:∀{l:List AV}{h':AH}{a b:AV},l=[a,b]->R (.ret (.cM l)) h'->aH Pg [.tmp 2,.tmp 3] R l h':=fun e hr=>by
  subst e;simpa[aH,jp,gN] using hr
 show cl (.cM (l5 (oK q b (yl.map (·.1))))) 0 fun _=>cl (.cM (l5 (oK q b (yl.map (·.1))))) 1 fun t=>F6.cX _ _ _ _ _ (.ptr vc 0) t h2
 have e1:∀(p:Int×Int)(K:AV->Prop),cl (.cM (l5 p)) 1 K=K (I p.2):=fun p K=>by simp[l5]
 have e0:∀(p:Int×Int)(K:Prop),cl (.cM (l5 p)) 0 (fun _=>K)=K:=fun p K=>by simp[l5]
 rw[e0,e1]
 generalize oK q b (yl.map (·.1))=e at *
 unfold F6.cX
 simp only[cZ]
 by_cases k:e.2=0
 ·have k':(e.2 != 0)=false:=by simp[k]
  have c:=cS k
  simp only[k',F6.cV,ao,zE,zD,zC,zH]
  unfold F6.cq
  refine dN (f2.bQ oc) rfl fun _=>?_
  refine⟨fun _=>False,fun _ h=>h.elim,Im (hx.bp cu) (by have:=c.len;rw[zZ]at this;exact this) c.bR fun xr h3 hr hri f3=>?_⟩
  have eO:=cu.bO f3
  have rg:=zs (ops:=yl.map (·.1)) c.bR
  have hs:nB e.2 q b (yl.map (·.1))=match st q b (yl.map (·.1)) with
   |none=>[S [],I 102]
   |some r=>ig r:=by unfold nB;rw[zW (by simp[k])]
  have hc:=c.rows
  have jd:=c.op
  have hlen:=c.len
  rw[hs]at hR
  unfold st at hc hR
  generalize bN (yl.map (·.1)) b.toNat=aq at *
  have d:SH (fun id=>M id\/h.next<=id) h h3 vc q b x xr yl aq:=⟨f3.bQ (f2.bQ oc),hx.bp eO,hr.fl,fun id hid=>.inr hid,eO⟩
  refine Sd d rg.len fun x7 h4 d4 yq Ff=>?_
  have hhl:(fP q aq).length<=65:=by
   have:=rg.len
   unfold fP;rw[List.length_append,zZ,dX]
   split<;>simp<;>omega
  have hha:∀r∈fP q aq,r.args=[]:=fun r hr=>by
   unfold fP at hr
   rcases List.mem_append.1 hr with hr |hr
   ·split at hr
    ·simp at hr;subst hr;rfl
    ·cases hr
   ·simp only[List.mem_map]at hr
    obtain⟨y,_,e⟩:=hr
    subst e;rfl
  refine VM (b':=b) (L0:=(fP q aq).map fun r=>(r,aV)) d4 ⟨bw.H8 yq,fun y hy=>?_,Ff⟩ (by rw[zZ];exact hhl) (by rw[zZ]at hlen;exact hlen) rg (fun y hy=>jd _ (List.mem_map_of_mem hy)) (fun hn h5 f5=>?_) fun A l x7 h5 hA d5 t5 hl A6=>?_
  ·simp only[List.mem_map]at hy
   obtain⟨r,hr,e⟩:=hy
   subst e
   show bw Arg.enc 2 67 h4 aV r.args
   rw[hha r hr];exact .nil
  ·rw[hn]at hR
   exact yY rfl (hR h5 f5)
  ·rw[hA]at hR hc
   have tP:l.map (·.1)=fP q aq++A:=by rw[hl];simp[List.map_map,Function.comp_def]
   have dK:=hc (fP q aq++A) rfl
   rw[<-tP]at dK
   refine Sc t5.rows (fun y hy=>dK.1 _ (List.mem_map_of_mem hy)) (by omega) dK.2 fun h6 f6=>?_
   have hr:=hR h6 (d5.f.bO f6)
   simp only[yB]at hr
   rw[tP]
   have key:∃a b,ig (fP q aq++A)=[a,b]:=by
    unfold ig
    split
    ·split<;>exact⟨_,_,rfl⟩
    ·exact⟨_,_,rfl⟩
   obtain⟨a,b,e⟩:=key
   exact yY e hr
 ·have k':(e.2 != 0)=true:=by simp[k]
  simp only[k',F6.cV,ao,zD,zF,zC,zI,F6.cN]
  have hs:nB e.2 q b (yl.map (·.1))=[S [],I e.2]:=by unfold nB;rw[zX k]
  rw[hs]at hR
  exact yY rfl (hR h2 cu)
end
end
section
open Go.Ab
theorem LO(n:ByteArray):0<=b6 n/\b6 n<=100:=by
 unfold b6
 split
 ·rename_i x hx
  have h1:=List.mem_of_find?_eq_some hx
  have key:∀x∈j3,0<=x.2.1/\x.2.1<=100:=by decide +kernel
  exact key x h1
 ·omega
theorem Ny{q b:Int}{o:bI}(hb:0<=b/\b<=64)(h:jJ q b o=0):Gg b o:=by
 unfold jJ at h
 by_cases c1:s9 b o=true
 ·rw[zX c1]at h;exact absurd h (by decide)
 rw[zW c1]at h
 by_cases c2:iG o=true
 ·rw[zX c2]at h;exact absurd h (by decide)
 rw[zW c2]at h
 by_cases c3:o.kind=1/\b6 o.name=0
 ·rw[zX c3]at h;exact absurd h (by decide)
 rw[zW c3]at h
 by_cases c4:(o.az.length:Int)≠wc o
 ·rw[zX c4]at h;exact absurd h (by decide)
 rw[zW c4]at h
 by_cases c5:vZ q o.az=true
 ·rw[zX c5]at h;exact absurd h (by decide)
 rw[zW c5]at h
 by_cases c6:o.kind=2/\(o.bit<0\/b<=o.bit)
 ·rw[zX c6]at h;exact absurd h (by decide)
 have Qn:(o.az.length:Int)=wc o:=by omega
 have hnq:=LO o.name
 have UJ:o.kind=2->0<=o.bit/\o.bit<b:=fun k=>by
  have:¬(o.bit<0\/b<=o.bit):=fun e=>c6 ⟨k,e⟩
  omega
 have WH:o.kind≠2->o.bit=0:=fun k=>by
  by_cases e:o.bit=0
  ·exact e
  ·exfalso;apply c2
   unfold iG
   simp[k,e]
 refine⟨?_,?_,fun k=>⟨UJ k,?_⟩⟩
 ·unfold wc at Qn
  split at Qn<;>omega
 ·by_cases k:o.kind=2
  ·have:=UJ k;omega
  ·rw[WH k];omega
 ·have hn:o.az.length=1:=by
   have k1:¬o.kind=1:=by omega
   unfold wc at Qn
   rw[zW k1]at Qn
   omega
  match hq:o.az with
  |[]=>rw[hq]at hn;cases hn
  |[q0]=>exact⟨q0,rfl⟩
  |_::_::_=>rw[hq]at hn;simp at hn
theorem Bz{q b:Int}(hb:0<=b/\b<=64):∀{l:List bI}{i:Nat}{n:Int},(h_ q b l i n).2=0->∀o∈l,Gg b o
 |[],_,_,_,o,ho=>by cases ho
 |y::l,i,n,h,o,ho=>by
  unfold h_ at h
  by_cases c1:jJ q b y≠0
  ·rw[zX c1]at h;exact absurd h c1
  rw[zW c1]at h
  by_cases c2:36<n+fu y
  ·rw[zX c2]at h;exact absurd (show(116:Int)=0 from h) (by decide)
  rw[zW c2]at h
  rcases List.mem_cons.1 ho with e |ho
  ·subst e;exact Ny (q:=q) hb (Classical.not_not.1 c1)
  ·exact Bz hb h o ho
theorem NQ{q b:Int}{l:List bI}(h:(fg q b l).2=0):(0<=b/\b<=64)/\(0<=q/\q<=64)/\l.length<=4096/\∀o∈l,Gg b o:=by
 unfold fg at h
 by_cases c1:q<0\/64<q\/b<0\/64<b
 ·rw[zX c1]at h;exact absurd h (by decide)
 rw[zW c1]at h
 by_cases c2:4096<l.length
 ·rw[zX c2]at h;exact absurd h (by decide)
 rw[zW c2]at h
 exact⟨by omega,by omega,by omega,Bz (by omega) h⟩
end
section
open Go.Ab
attribute [-simp] aN aD
section
variable {W:Nat->Prop} {QR QN:VK} {QE:Nat->VK} {QP:AV->AH->Prop} {h0 h:AH} {R:AE->AH->Prop} {vc:Nat} {q b:Int} {x x7 xr:AV} {yl:List (bI×AV)} {aq:List (Int×Int)}
structure SG (W:Nat->Prop) (h0 h:AH) (vc:Nat) (q b:Int) (x xr:AV) (yl:List (bI×AV)) (aq:List (Int×Int)):Prop where
 oc:h.obj vc=some (aO [I q,I b,x] 3 24)
 x:kN h x yl
 r:cf mu 2 56 h xr aq
 W:∀id,h0.next<=id->W id
 f:Fr h0 h (fun _=>False)
 t:cp 0 h
 p:0<h0.next
theorem SG.fr{h':AH}{S:Nat->Prop}(d:SG W h0 h vc q b x xr yl aq)(f:Fr h h' S)(hs:∀i,S i->h0.next<=i/\∀cs sz ty ro kd,h.obj i=some { cells:=cs,sz:=sz,ty:=ty,ro:=ro,kind:=kd }->ro=false/\ty≠24/\ty≠38/\ty≠3/\ty≠56):SG W h0 h' vc q b x xr yl aq:=by
 refine⟨f.obj d.oc fun e=>((hs _ e).2 _ _ _ _ _ d.oc).2.1 rfl,⟨d.x.dy.fr f fun i ob ho ht e=>?_,fun y hy=>(d.x.qs y hy).fr f fun i ob ho ht e=>?_⟩,d.r.fr f fun i ob ho ht e=>?_,d.W,lc d.f f fun i hi=>(hs i hi).1,cp.sA d.t d.f.next d.p f fun i hi=>(hs i hi).1,d.p⟩
 ·obtain⟨a,_,c,_⟩:=(hs _ e).2 _ _ _ _ _ (show h.obj i=some { cells:=ob.cells,sz:=ob.sz,ty:=ob.ty,ro:=ob.ro,kind:=ob.kind } from ho)
  exact c (ht a)
 ·obtain⟨a,_,_,c,_⟩:=(hs _ e).2 _ _ _ _ _ (show h.obj i=some { cells:=ob.cells,sz:=ob.sz,ty:=ob.ty,ro:=ob.ro,kind:=ob.kind } from ho)
  exact c (ht a)
 ·obtain⟨a,_,_,_,c⟩:=(hs _ e).2 _ _ _ _ _ (show h.obj i=some { cells:=ob.cells,sz:=ob.sz,ty:=ob.ty,ro:=ob.ro,kind:=ob.kind } from ho)
  exact c (ht a)
theorem SG.bp{h':AH}(d:SG W h0 h vc q b x xr yl aq)(f:Fr h h' fun _=>False):SG W h0 h' vc q b x xr yl aq:=d.fr f fun _ h=>h.elim
theorem SG.mw{h':AH}{α:Type}{f:α->List AV}{L:List α}(d:SG W h0 h vc q b x xr yl aq)(hS:bw f 6 46 h x7 L)(hI:cz (h0.next<=·) x7)(fr:Fr h h' (fun i=>∃off n,x7=.sl i off n)):SG W h0 h' vc q b x xr yl aq:=by
 refine d.fr fr fun i ⟨off,n,e⟩=>⟨hI i _ _ e,fun cs sz ty ro kd ho=>?_⟩
 rcases hS with⟨e2,_⟩ |⟨j,e2,hj⟩
 ·rw[e2]at e;cases e
 ·rw[e2]at e;cases e
  rw[hj]at ho;cases ho
  exact⟨rfl,by decide,by decide,by decide,by decide⟩
theorem R_{A:List Row}{x6:AV}(mR:aq.length<=64)(hA:A.length<=1)(d:SG W h0 h vc q b x xr yl aq)(hS:bw ew 6 46 h x6 A)(hI:cz (h0.next<=·) x6)
  (hR:∀x6 h',SG W h0 h' vc q b x xr yl aq->bw ew 6 46 h' x6 (A++(bS aq).map uQ)->cz (h0.next<=·) x6->F7.cq W QR QN QE QP (.ptr vc 0) x6 xr h') :
  F7.fc W QR QN QE QP (.ptr vc 0) x6 xr h:=by
 unfold F7.fc
 simp only[d.r.len.1,d.r.len.2,zH]
 unfold F7.ft
 refine bX (ι:=Nat×AV) (fun s v h'=>v=[.ptr vc 0,s.2,xr,xr,I aq.length,I s.1]/\s.1<=aq.length/\SG W h0 h' vc q b x xr yl aq/\bw ew 6 46 h' s.2 (A++((bS aq).take s.1).map uQ)/\cz (h0.next<=·) s.2) (fun s=>aq.length-s.1) (0,x6) ⟨rfl,by omega,d,by simpa using hS,hI⟩ ?_
 clear d hS hI
 rintro K ⟨k,x6⟩ v h' ⟨rfl,hk,d,hS,hI⟩ step
 simp only at hk d hS hI
 have w3:IntKind.i64.wrap ((k:Int)+1)=((k+1:Nat):Int):=by rw[aL (by omega) (by omega)];simp
 simp only[F7.U3,zN,zO,F7.eh,ba]
 by_cases aM:k<aq.length
 ·have dh:(k:Int)<aq.length:=by omega
  have g0:aq[k]?=some aq[k]:=zJ aM
  generalize aq[k]=g at *
  have oX:(bS aq)[k]?=some (k,g):=by rw[jv,g0];rfl
  have fG:(bS aq).take (k+1)=(bS aq).take k++[(k,g)]:=by rw[List.take_add_one,oX];rfl
  simp only[zL dh,F7.dH,ao,zD,zF,zC,zI]
  unfold F7.cX
  refine ll d.r ms g0 fun _=>?_
  refine gH (cs:=mu g) (uH g) rfl rfl rfl (fun id hid=>d.W id (zR d.f.next hid)) fun v9 h2 f2 X2 o9=>?_
  have d2:=d.bp f2
  have mo:=jz hS f2 fun _ _ _ h=>h
  unfold F7.cV
  refine eH o9 rfl fun _=>?_
  refine⟨fun _=>False,fun _ h=>h.elim,uP (by omega) d2.t ?_⟩
  refine⟨_,xS (k:=bK),?_⟩
  refine mP (f:=ew) (sz:=6) (bytes:=80) (ty:=46) (z:=[.string ⟨#[]⟩,.string ⟨#[]⟩,.slice none 0 0,.int .i64 0,.int .i64 0,.int .i64 0]) (t:=uQ (k,g)) kh (by omega) rfl pr (by decide) mo (fun i of n e=>d.W i (hI i of n e)) (by rw[List.length_append,zZ,yA];omega) fun v y h3 iT lr f3=>?_
  simp only[F7.cN,aR,w3]
  refine step (k+1,y) _ _ (by show _<_;omega) ⟨rfl,by show k+1<=_;omega,d2.mw mo hI f3,?_,fun i of n e=>zR d2.f.next (lr i of n e)⟩
  show bw ew 6 46 h3 y (A++((bS aq).take (k+1)).map uQ)
  rw[fG,List.map_append,<-List.append_assoc];exact iT
 ·have mS:k=aq.length:=by omega
  have df:¬((k:Int)<aq.length):=by omega
  rw[mS,List.take_of_length_le (by rw[dX];omega)]at hS
  simp only[zK df,F7.dH,ao,zE,zD,zC,zH,zV,zN,zO]
  exact hR x6 h' d hS hI
end
end
section
open Go.Ab
attribute [-simp] aN aD
section
variable {W:Nat->Prop} {QR QN:VK} {QE:Nat->VK} {QP:AV->AH->Prop} {h0 h:AH} {R:AE->AH->Prop} {vc v11:Nat} {q b b':Int} {x x6 xr cL c7 cA:AV} {yl:List (bI×AV)} {aq:List (Int×Int)} {y:bI×AV}
theorem VJ(d:SG W h0 h vc q b x xr yl aq)(ov:h.obj v11=some (aO (b8 y) 7 38))(rg:LY b' aq)
  (hR:∀aS h',Fr h h' (fun _=>False)->bw ew 6 46 h' aS (dU y.1 (bS aq))->cz (h.next<=·) aS->F7.a_ W QR QN QE QP x6 xr (.ptr v11 0) aS cL c7 cA h') :
  F7.bZ W QR QN QE QP x6 xr (.ptr v11 0) cL c7 cA h:=by
 unfold F7.bZ F7.bD
 simp only[d.r.len.1,d.r.len.2,zH]
 unfold F7.bG
 refine bX (ι:=Nat×AV) (fun s v h'=>v=[x6,xr,.ptr v11 0,s.2,cL,c7,cA,xr,I aq.length,I s.1]/\s.1<=aq.length/\Fr h h' (fun _=>False)/\bw ew 6 46 h' s.2 (dU y.1 ((bS aq).take s.1))/\cz (h.next<=·) s.2) (fun s=>aq.length-s.1) (0,aV) ⟨rfl,by omega,Fr.refl,.nil,fun _ _ _ e=>by cases e⟩ ?_
 rintro K ⟨k,aS⟩ v h' ⟨rfl,hk,f,hS,hI⟩ step
 simp only at hk hS hI
 have mR:=rg.len
 have w3:IntKind.i64.wrap ((k:Int)+1)=((k+1:Nat):Int):=by rw[aL (by omega) (by omega)];simp
 have d1:=d.bp f
 simp only[F7.rY,zN,zO,F7.bE,ba]
 by_cases aM:k<aq.length
 ·have dh:(k:Int)<aq.length:=by omega
  have g0:aq[k]?=some aq[k]:=zJ aM
  have hg:=rg.g _ (List.getElem_mem aM)
  generalize aq[k]=g at *
  have oX:(bS aq)[k]?=some (k,g):=by rw[jv,g0];rfl
  have fG:(bS aq).take (k+1)=(bS aq).take k++[(k,g)]:=by rw[List.take_add_one,oX];rfl
  have C9:=rQ (o:=y.1) (L:=(bS aq).take k)
  rw[yA]at C9
  simp only[zL dh,F7.bC,ao,zD,zF,zC,zI]
  unfold F7.bz
  refine ll d1.r ms g0 fun _=>?_
  refine gH (cs:=mu g) (uH g) rfl rfl rfl (fun id hid=>d.W id (zR d1.f.next hid)) fun v9 h2 f2 X2 o9=>?_
  have d2:=d1.bp f2
  have cu:=f.bO f2
  have qH:=cu.bQ ov
  have mo:=jz hS f2 fun _ _ _ h=>h
  unfold F7.bu
  refine eH qH rfl fun _=>?_
  refine eH o9 rfl fun _=>?_
  simp only[nO,hg.1,zH,l9,CH]
  by_cases c:uO y.1.cT g.1=1
  ·have c':(nf (y.1.cT.fdiv (2^(min g.1.toNat IntKind.u64.bits))) 1==1)=true:=by rw[beq_iff_eq];exact c
   have wE:dU y.1 [(k,g)]=[KL y.1 (k,g)]:=by simp[dU,c]
   simp only[c',F7.bg,ao,zD,zF,zC,zI]
   unfold F7.aZ
   refine eH qH rfl fun _=>?_
   refine eH o9 rfl fun _=>?_
   simp only[nO,hg.1,zH]
   refine eH o9 rfl fun _=>?_
   simp only[CG,vV,Rs hg.2.2,l9]
   refine⟨by omega,?_⟩
   unfold F7.bj
   refine⟨fun _=>False,fun _ h=>h.elim,uP (by omega) d2.t ?_⟩
   simp only[CF]
   refine⟨_,Qo,?_⟩
   refine mP (f:=ew) (sz:=6) (bytes:=80) (ty:=46) (z:=[.string ⟨#[]⟩,.string ⟨#[]⟩,.slice none 0 0,.int .i64 0,.int .i64 0,.int .i64 0]) (t:=KL y.1 (k,g)) kh (by omega) rfl pr (by decide) mo (fun i of n e=>d.W i (zR d.f.next (hI i of n e))) (by omega) fun v z h3 iT lr f3=>?_
   simp only[F7.bn,aR,w3]
   refine step (k+1,z) _ _ (by show _<_;omega) ⟨rfl,by show k+1<=_;omega,lc cu f3 fun i ⟨_,_,e⟩=>hI i _ _ e,?_,fun i of n e=>zR cu.next (lr i of n e)⟩
   show bw ew 6 46 h3 z (dU y.1 ((bS aq).take (k+1)))
   rw[fG,zi,wE];exact iT
  ·have c':(nf (y.1.cT.fdiv (2^(min g.1.toNat IntKind.u64.bits))) 1==1)=false:=by rw[beq_eq_false_iff_ne];exact c
   have wE:dU y.1 [(k,g)]=[]:=by simp[dU,c]
   simp only[c',F7.bg,ao,zE,zD,zC,zH,F7.bn,aR,w3]
   refine step (k+1,aS) _ _ (by show _<_;omega) ⟨rfl,by show k+1<=_;omega,cu,?_,hI⟩
   show bw ew 6 46 h2 aS (dU y.1 ((bS aq).take (k+1)))
   rw[fG,zi,wE,List.append_nil];exact mo
 ·have mS:k=aq.length:=by omega
  have df:¬((k:Int)<aq.length):=by omega
  rw[mS,List.take_of_length_le (by rw[dX];omega)]at hS
  simp only[zK df,F7.bC,ao,zE,zD,zC,zH,zV,zN,zO]
  exact hR aS h' f hS hI
end
end
section
open Go.Ab
attribute [-simp] aN aD
section
variable {W:Nat->Prop} {QR QN:VK} {QE:Nat->VK} {QP:AV->AH->Prop} {h0 h:AH} {R:AE->AH->Prop} {x6 xr aA aS cL c7 cA:AV}
theorem R9{L:List Row}(hW:∀id,h0.next<=id->W id)(f:Fr h0 h (fun _=>False))(hS:bw ew 6 46 h aS L)(hI:cz (h0.next<=·) aS)(hL:L.length<=1000)
  (hR:∀h',Fr h0 h' (fun _=>False)->bw ew 6 46 h' aS (kc L)->F7.n3 W QR QN QE QP x6 xr aA aS cL c7 cA h') :
  F7.aP W QR QN QE QP x6 xr aA aS cL c7 cA h:=by
 unfold F7.aP
 simp only[hS.fl.len.1,hS.fl.len.2,zH]
 unfold F7.n9
 refine bX (ι:=Nat) (fun s v h'=>v=[x6,xr,aA,aS,cL,c7,cA,I L.length,I s]/\s<=L.length/\Fr h0 h' (fun _=>False)/\bw ew 6 46 h' aS (mc s L)) (fun s=>L.length-s) 0 ⟨rfl,by omega,f,by rw[Kr];exact hS⟩ ?_
 clear f hS
 rintro K j v h' ⟨rfl,hj,f,hS⟩ step
 have w3:IntKind.i64.wrap ((j:Int)+1)=((j+1:Nat):Int):=by rw[aL (by omega) (by omega)];simp
 have mU:=hS.fl
 simp only[F7.fI,zN,zO,F7.n8,ba]
 by_cases aM:j<L.length
 ·have dh:(j:Int)<L.length:=by omega
  have g0:L[j]?=some L[j]:=zJ aM
  generalize L[j]=y at *
  have gj:=Ez g0
  have w4:IntKind.i64.wrap ((L.length:Int)-j)=(L.length:Int)-j:=aL (by omega) (by omega)
  simp only[zL dh,F7.n7,ao,zD,zF,zC,zI,F7.n6,F7.n5,mU.len.1,mU.len.2,zH,gW,eX,w4]
  rcases hS with⟨_,e⟩ |⟨id,rfl,ho⟩
  ·have:=congrArg List.length e;rw[gW,List.length_nil]at this;omega
  refine xC (by rw[gW];omega) ?_
  have mm:j*6+4<((mc j L).flatMap ew).length:=by rw[fR kh,gW];omega
  simp only[al,aD,ho,eJ,cH]
  refine⟨⟨hW _ (hI _ _ _ rfl),rfl,rfl,by show _+1<=_;omega⟩,?_⟩
  have o1:=fF (off:=j*6+4) (cs:=[I ((L.length:Int)-j)]) ho
  have f3:Fr h' (h'.put id (j*6+4) [I ((L.length:Int)-j)]) (·=id):=Fr.refl.put (.inl rfl)
  generalize h'.put id (j*6+4) [I ((L.length:Int)-j)]=h2 at *
  simp only[F7.n4,aR,w3]
  refine step (j+1) _ _ (by show _<_;omega) ⟨rfl,by show j+1<=_;omega,lc f f3 fun i hi=>by subst hi;exact hI _ _ _ rfl,.inr ⟨id,?_,?_⟩⟩
  ·congr 1;rw[gW,gW]
  ·rw[o1,oA kh gj (by omega) (y:=ph y ((L.length:Int)-j)) (by simp[ew,au,ph]),Ey g0]
 ·have mS:j=L.length:=by omega
  have df:¬((j:Int)<L.length):=by omega
  rw[mS,EA]at hS
  simp only[zK df,F7.n7,ao,zE,zD,zC,zH,zV,zN,zO]
  exact hR h' f hS
end
end
section
open Go.Ab
attribute [-simp] aN aD
section
variable {W:Nat->Prop} {QR QN:VK} {QE:Nat->VK} {QP:AV->AH->Prop} {h0 h:AH} {R:AE->AH->Prop} {vc v11:Nat} {q b b':Int} {x x6 xr aS cL c7 cA:AV} {yl:List (bI×AV)} {aq:List (Int×Int)} {y:bI×AV}
theorem VH{l:List (Row×AV)}{L:List Row}(d:SG W h0 h vc q b x xr yl aq)(t:TL h0 h x6 l)(ov:h.obj v11=some (aO (b8 y) 7 38))(hy:cf di 1 3 h y.2 y.1.az)(oh:Gg b' y.1)(rg:LY b' aq)
  (hS:bw ew 6 46 h aS (kc L)) (ha:∀r∈L,r.args=[]) (hL:L.length<=1000) (hl:l.length<=200000)
  (hR:∀z xa h',SG W h0 h' vc q b x xr yl aq->TL h0 h' z (l++((kc L).map (fun r=>(r,aV))++[(ee y.1 aq,xa)]))->F7.n2 W QR QN QE QP z xr cL c7 cA h') :
  F7.n3 W QR QN QE QP x6 xr (.ptr v11 0) aS cL c7 cA h:=by
 unfold F7.n3
 refine⟨fun _=>v11,fun i _=>by rw[ov];simp,?_⟩
 refine xl ov rfl ⟨rfl,?_⟩
 have hSA:=bw.H8 hS
 have AZ:=CK ha
 have Is:∀{α:Type}{f:α->List AV}{L:List α}{z:AV}{h1:AH},bw f 6 46 h1 z L->∀i cs s T,h1.obj i=some (aO cs s T)->T≠46->∀off n,z≠.sl i off n:=fun hz i cs s T hi hT off n e=>by
  rcases hz with⟨e2,_⟩ |⟨j,e2,hj⟩
  ·rw[e2]at e;cases e
  ·rw[e2]at e;cases e
   rw[hj]at hi;injection hi with hi;injection hi with _ _ hi;exact hT hi.symm
 refine Vx eF (by decide) t.dy hSA (fun i of n e=>⟨d.W i (t.new i of n e),fun j _ e2=>?_⟩) (by rw[zZ,rI];omega) fun z h1 sN hz f1=>?_
 ·subst e2;exact Is t.dy _ _ _ _ ov (by decide) of n e
 have d1:=d.mw t.dy t.new f1
 have hy1:cf di 1 3 h1 y.2 y.1.az:=hy.fr f1 fun i ob ho ht ⟨off,n,e⟩=>by
  rcases t.dy with⟨e2,_⟩ |⟨j,e2,hj⟩
  ·rw[e2]at e;cases e
  ·rw[e2]at e;cases e
   rw[hj]at ho;cases ho
   exact absurd (ht rfl) (show(46:Nat)≠3 by decide)
 refine⟨fun _=>False,fun _ h=>h.elim,Fw (o:=y.1) (xq:=y.2) d1.t (Nat.lt_of_lt_of_le d1.p d1.f.next) hy1 d1.r oh.ql rg.len (fun g hg=>by have:=rg.g g hg;omega) oh.bit fun xa h2 Hq yu f2=>?_⟩
 have d2:=d1.bp f2
 have mo:=jz sN f2 fun _ _ _ h=>h
 have XS:cz (h0.next<=·) z:=by
  rcases hz with e |hz
  ·rw[e];exact t.new
  ·exact fun i of n e=>zR d.f.next (hz i of n e)
 have kY:(au (ee y.1 aq,xa)).all cB=true:=by
  show(true&&(true&&(cB xa&&true)))=true
  rw[Hq.fl.one.1];rfl
 refine Jg (f:=au) (sz:=6) (bytes:=80) (ty:=46) (z:=[.string ⟨#[]⟩,.string ⟨#[]⟩,.slice none 0 0,.int .i64 0,.int .i64 0,.int .i64 0]) (t:=(ee y.1 aq,xa)) eF (by omega) rfl (by decide) kY mo (fun i of n e=>d.W i (XS i of n e)) (by rw[List.length_append,zZ,rI];omega) fun w h3 iT lr k3 n3=>?_
 have f3:Fr h2 h3 (fun i=>∃off n,z=.sl i off n):=⟨n3,fun i hi hs=>k3 i hi (fun off n he=>hs ⟨off,n,he⟩)⟩
 have d3:=d2.mw mo XS f3
 rw[List.append_assoc]at iT
 have no1:∀i cs,h.obj i=some (aO cs 2 67)->¬ ∃off n,x6=.sl i off n:=fun i cs hi ⟨off,n,e⟩=>Is t.dy _ _ _ _ hi (by decide) off n e
 have XO:∀i cs,h2.obj i=some (aO cs 2 67)->¬ ∃off n,z=.sl i off n:=fun i cs hi ⟨off,n,e⟩=>Is mo _ _ _ _ hi (by decide) off n e
 refine hR w xa h3 d3 ⟨iT,fun p hp=>?_,fun i of n e=>zR d2.f.next (lr i of n e)⟩
 rcases List.mem_append.1 hp with hp |hp
 ·exact jz (jz (jz (t.args p hp) f1 no1) f2 fun _ _ _ h=>h) f3 XO
 ·rcases List.mem_append.1 hp with hp |hp
  ·simp only[List.mem_map]at hp
   obtain⟨r,hr,e⟩:=hp
   subst e
   show bw Arg.enc 2 67 h3 aV r.args
   rw[AZ r hr];exact .nil
  ·simp only[List.mem_singleton]at hp
   subst hp
   exact jz Hq f3 XO
theorem VI{L0:List (Row×AV)}(d:SG W h0 h vc q b x xr yl aq)(t:TL h0 h x6 L0)(wK:L0.length<=65)(ET:yl.length<=4096)(rg:LY b' aq)(ho:∀y∈yl,Gg b' y.1)
  (hN:iP aq (yl.map (·.1))=none->∀h',Fr h0 h' (fun _=>False)->QR [S [],I 102] h')
  (hY:∀A l x6 h',iP aq (yl.map (·.1))=some A->SG W h0 h' vc q b x xr yl aq->TL h0 h' x6 l->l.map (·.1)=L0.map (·.1)++A->l.length<=200000->F7.n1 W QR QN QE QP x6 h') :
  F7.cq W QR QN QE QP (.ptr vc 0) x6 xr h:=by
 unfold F7.cq
 refine eH d.oc rfl fun _=>?_
 simp only[d.x.dy.len.1,d.x.dy.len.2,zH]
 unfold F7.cj
 refine bX (ι:=Nat×AV×List (Row×AV)×List Row) (fun s v h'=>v=[s.2.1,xr,x,I yl.length,I s.1]/\s.1<=yl.length/\SG W h0 h' vc q b x xr yl aq/\TL h0 h' s.2.1 s.2.2.1/\iP aq ((yl.map (·.1)).take s.1)=some s.2.2.2/\s.2.2.1.map (·.1)=L0.map (·.1)++s.2.2.2/\s.2.2.1.length<=65+33*s.1) (fun s=>yl.length-s.1) (0,x6,L0,[]) ⟨rfl,by omega,d,t,rfl,by simp,by simpa using wK⟩ ?_
 clear d t
 rintro K ⟨k,x6,l,A⟩ v h' ⟨rfl,hk,d,t,hA,hl,hn⟩ step
 simp only at hk d t hA hl hn
 have w3:IntKind.i64.wrap ((k:Int)+1)=((k+1:Nat):Int):=by rw[aL (by omega) (by omega)];simp
 simp only[F7.cn,zN,zO,F7.bW,ba]
 by_cases aM:k<yl.length
 ·have dh:(k:Int)<yl.length:=by omega
  have g0:yl[k]?=some yl[k]:=zJ aM
  have lC:=List.getElem_mem aM
  generalize yl[k]=y at *
  have oh:=ho y lC
  have fG:(yl.map (·.1)).take (k+1)=(yl.map (·.1)).take k++[y.1]:=by rw[List.take_add_one,List.getElem?_map,g0];rfl
  have C5:yl.map (·.1)=(yl.map (·.1)).take k++(y.1::(yl.map (·.1)).drop (k+1)):=by
   conv=>lhs;rw[<-List.take_append_drop (k+1) (yl.map (·.1)),fG]
   simp
  simp only[zL dh,F7.bT,ao,zD,zF,zC,zI]
  unfold F7.bY
  refine ll d.x.dy hG g0 fun _=>?_
  refine gH (cs:=b8 y) (ki (d.x.qs y lC).one.1) rfl rfl rfl (fun id hid=>d.W id (zR d.f.next hid)) fun v11 h2 f2 abH XN=>?_
  have d2:=d.bp f2
  have t2:=t.bp f2
  refine VJ d2 XN rg fun aS h3 f3 iT lr=>?_
  have wE:=rQ (o:=y.1) (L:=bS aq)
  rw[dX]at wE
  have mR:=rg.len
  unfold F7.a_
  simp only[iT.fl.len.1,iT.fl.len.2,zH,dZ,gt_iff_lt]
  by_cases c:(32:Int)<((dU y.1 (bS aq)).length:Int)
  ·have c':32<(dU y.1 (bS aq)).length:=by omega
   have q8:iP aq (yl.map (·.1))=none:=by
    rw[C5,rH,hA]
    simp only[Option.bind_some,iP,zX c',Option.map_none]
   simp only[zL c,F7.aQ,ao,zD,zF,zC,zI,F7.aU]
   exact hN q8 h3 (d2.f.bO f3)
  ·have c':¬32<(dU y.1 (bS aq)).length:=by omega
   simp only[zK c,F7.aQ,ao,zE,zD,zC,zH]
   refine R9 (h0:=h2) (fun id hid=>d.W id (zR d2.f.next hid)) f3 iT lr (by omega) fun h4 f4 yq=>?_
   have d4:=d2.bp f4
   have iF:((kc (dU y.1 (bS aq))).map (fun r=>(r,aV))).length=(dU y.1 (bS aq)).length:=by simp[rI]
   refine VH d4 (t2.bp f4) (f4.bQ XN) ((d.x.qs y lC).bp (f2.bO f4)) oh rg yq CZ (by omega) (by omega) fun z xa h5 d5 t5=>?_
   have Nh:((kc (dU y.1 (bS aq))).map (fun r=>(r,aV))++[(ee y.1 aq,xa)]).map (·.1)=rG aq y.1:=by simp[rG,List.map_map,Function.comp_def]
   simp only[F7.n2,aR,w3]
   refine step (k+1,z,l++((kc (dU y.1 (bS aq))).map (fun r=>(r,aV))++[(ee y.1 aq,xa)]),A++rG aq y.1) _ _ (by show _<_;omega) ⟨rfl,by show k+1<=_;omega,d5,t5,?_,?_,?_⟩
   ·show iP aq ((yl.map (·.1)).take (k+1))=_
    rw[fG,rH,hA]
    simp[iP,c']
   ·show List.map (·.1) (l++_)=_
    rw[List.map_append,hl,Nh,List.append_assoc]
   ·show(l++_).length<=65+33*(k+1)
    rw[List.length_append,List.length_append,iF,List.length_singleton];omega
 ·have mS:k=yl.length:=by omega
  have df:¬((k:Int)<yl.length):=by omega
  rw[mS,List.take_of_length_le (by rw[zZ];omega)]at hA
  simp only[zK df,F7.bT,ao,zE,zD,zC,zH,zV,zN,zO]
  exact hY A l x6 h' hA d t hl (by omega)
end
end
section
open Go.Ab
attribute [-simp] aN aD
section
variable {h:AH} {M:Nat->Prop} {R:AE->AH->Prop} {q b:Int} {x:AV} {yl:List (bI×AV)}
theorem Da{q:Int}{aq:List (Int×Int)}(h:aq.length<=64):(fP q aq).length<=65:=by
 unfold fP;rw[List.length_append,zZ,dX]
 split<;>simp<;>omega
theorem IY{q:Int}{aq:List (Int×Int)}:∀r∈fP q aq,r.args=[]:=fun r hr=>by
 unfold fP at hr
 rcases List.mem_append.1 hr with hr |hr
 ·split at hr
  ·simp at hr;subst hr;rfl
  ·cases hr
 ·simp only[List.mem_map]at hr
  obtain⟨y,_,e⟩:=hr
  subst e;rfl
theorem Fx(hx:kN h x yl)(ht:cp 0 h)(oI:0<h.next)(ln:∀y∈yl,y.1.az.length<=9223372036854775807)(cS:(fg q b (yl.map (·.1))).2=0->OU q b (yl.map (·.1)))
  (hR:∀h',Fr h h' (fun _=>False)->R (.ret (.cM (nB (fg q b (yl.map (·.1))).2 q b (yl.map (·.1))))) h'):ay Pg 7 [.agg [I q,I b,x]] h M R:=by
 apply F7.aI
 unfold F7.iQ
 refine cW (cs:=[I q,I b,x]) (by show(true&&(true&&(cB x&&true)))=true;rw[hx.dy.one.1];rfl) fun vc h1 f1 tN oc=>?_
 unfold F7.gv
 refine dN oc rfl fun _=>?_
 refine⟨fun _=>False,fun _ h=>h.elim,FO (hx.bp f1) ln fun h2 f2=>?_⟩
 have cu:=f1.bO f2
 have yY:∀{l:List AV}{h':AH}{a b:AV},l=[a,b]->R (.ret (.cM l)) h'->aH Pg [.tmp 2,.tmp 3] R l h':=fun e hr=>by
  subst e;simpa[aH,jp,gN] using hr
 have e1:∀(p:Int×Int)(K:AV->Prop),cl (.cM (l5 p)) 1 K=K (I p.2):=fun p K=>by simp[l5]
 have e0:∀(p:Int×Int)(K:Prop),cl (.cM (l5 p)) 0 (fun _=>K)=K:=fun p K=>by simp[l5]
 show cl (.cM (l5 (fg q b (yl.map (·.1))))) 0 fun _=>cl (.cM (l5 (fg q b (yl.map (·.1))))) 1 fun t=>F7.gI _ _ _ _ _ (.ptr vc 0) t h2
 rw[e0,e1]
 generalize fg q b (yl.map (·.1))=e at *
 unfold F7.gI
 simp only[cZ]
 by_cases k:e.2=0
 ·have k':(e.2 != 0)=false:=by simp[k]
  have c:=cS k
  simp only[k',F7.gg,ao,zE,zD,zC,zH]
  have hs:nB e.2 q b (yl.map (·.1))=match st q b (yl.map (·.1)) with
   |none=>[S [],I 102]
   |some r=>ig r:=by unfold nB;rw[zW (by simp[k])];all_goals (cases st q b (yl.map (·.1))<;>rfl)
  have hc:=c.rows
  have jd:=c.op
  have hlen:=c.len
  rw[zZ]at hlen
  rw[hs]at hR
  unfold st at hc hR
  have rg:=zs (ops:=yl.map (·.1)) c.bR
  have Ex:=f2.bQ oc
  have XY:=hx.bp cu
  have wv:=cp.bp ht cu
  have rest:∀(A:List Row)(x6:AV)(h3:AH),A.length<=1->Fr h h3 (fun _=>False)->h3.obj vc=some (aO [I q,I b,x] 3 24)->kN h3 x yl->cp 0 h3->bw ew 6 46 h3 x6 A->cz (h.next<=·) x6->fP q (bN (yl.map (·.1)) b.toNat)=A++(bS (bN (yl.map (·.1)) b.toNat)).map uQ->F7.fQ (fun id=>M id\/h.next<=id) (aH Pg [.tmp 2,.tmp 3] R) (aH Pg [.tmp 2,.tmp 3] R) (fun _ _ _=>False) (fun v h=>R (.bV v) h) (.ptr vc 0) x6 h3:=fun A x6 h3 hA f3 XM XX ht3 iT lr Hq=>by
   unfold F7.fQ
   refine dN XM rfl fun _=>?_
   refine⟨fun _=>False,fun _ h=>h.elim,RU XX hlen c.bR fun xr h4 hr hri f4=>?_⟩
   have kl:=f3.bO f4
   generalize bN (yl.map (·.1)) b.toNat=aq at *
   have d:SG (fun id=>M id\/h.next<=id) h h4 vc q b x xr yl aq:=⟨f4.bQ XM,XX.bp f4,hr.fl,fun id hid=>.inr hid,kl,cp.bp ht3 f4,oI⟩
   refine R_ rg.len hA d (jz iT f4 fun _ _ _ h=>h) lr fun x6 h5 d5 P6 UP=>?_
   rw[<-Hq]at P6
   refine VI (b':=b) (L0:=(fP q aq).map fun r=>(r,aV)) d5 ⟨bw.H8 P6,fun y hy=>?_,UP⟩ (by rw[zZ];exact Da rg.len) hlen rg (fun y hy=>jd _ (List.mem_map_of_mem hy)) (fun hn h6 f6=>?_) fun A l x6 h6 hA d6 t6 hl A6=>?_
   ·simp only[List.mem_map]at hy
    obtain⟨r,hr,e⟩:=hy
    subst e
    show bw Arg.enc 2 67 h5 aV r.args
    rw[IY r hr];exact .nil
   ·rw[hn]at hR
    exact yY rfl (hR h6 f6)
   ·rw[hA]at hR hc
    have tP:l.map (·.1)=fP q aq++A:=by rw[hl];simp[List.map_map,Function.comp_def]
    have dK:=hc (fP q aq++A) rfl
    rw[<-tP]at dK
    unfold F7.n1
    refine⟨fun _=>False,fun _ h=>h.elim,QT t6.rows d6.t (fun y hy=>dK.1 _ (List.mem_map_of_mem hy)) (by omega) fun h7 f7=>?_⟩
    have hr:=hR h7 (d6.f.bO f7)
    simp only[yB]at hr
    rw[tP]
    have key:∃a b,ig (fP q aq++A)=[.sc a,.sc b]:=by
     unfold ig
     split
     ·split<;>exact⟨_,_,rfl⟩
     ·exact⟨_,_,rfl⟩
    obtain⟨a,b,e⟩:=key
    rw[e]at hr ⊢
    simpa using yY rfl hr
  unfold F7.fq F7.gh
  refine eH Ex rfl fun _=>?_
  simp only[dZ,gt_iff_lt]
  by_cases hq:0<q
  ·simp only[zL hq,F7.fM,ao,zD,zF,zC,zI]
   refine eH Ex rfl fun _=>?_
   refine⟨_,xS (k:=aX) (s:=bs [113]),?_⟩
   refine mP (f:=ew) (sz:=6) (bytes:=80) (ty:=46) (z:=[.string ⟨#[]⟩,.string ⟨#[]⟩,.slice none 0 0,.int .i64 0,.int .i64 0,.int .i64 0]) (t:=Io q) kh (by omega) rfl pr (by decide) .nil (fun i of n e=>by cases e) (by simp) fun v y h3 iT lr f3=>?_
   have Qf:Fr h2 h3 (fun _=>False):=f3.mono fun i ⟨_,_,e⟩=>by cases e
   refine rest [Io q] y h3 (by simp) (cu.bO Qf) (Qf.bQ Ex) (XY.bp Qf) (cp.bp wv Qf) (by simpa using iT) (fun i of n e=>zR cu.next (lr i of n e)) ?_
   unfold fP;rw[zX hq];rfl
  ·simp only[zK hq,F7.fM,ao,zE,zD,zC,zH]
   refine rest [] aV h2 (by simp) cu Ex XY wv .nil (fun _ _ _ e=>by cases e) ?_
   unfold fP;rw[zW hq];rfl
 ·have k':(e.2 != 0)=true:=by simp[k]
  simp only[k',F7.gg,ao,zD,zF,zC,zI,F7.fp]
  have hs:nB e.2 q b (yl.map (·.1))=[S [],I e.2]:=by unfold nB;rw[zX k]
  rw[hs]at hR
  exact yY rfl (hR h2 cu)
end
end
section
open Go.Ab
theorem I5{q b:Int}{o:bI}(h:jJ q b o=0):o.name.size<=10:=by
 unfold jJ at h
 by_cases c1:s9 b o=true
 ·rw[zX c1]at h;exact absurd h (by decide)
 rw[zW c1]at h
 by_cases c2:iG o=true
 ·rw[zX c2]at h;exact absurd h (by decide)
 rw[zW c2]at h
 by_cases c3:o.kind=1/\b6 o.name=0
 ·rw[zX c3]at h;exact absurd h (by decide)
 by_cases k:o.kind=1
 ·have c4:b6 o.name≠0:=fun e=>c3 ⟨k,e⟩
  unfold b6 at c4
  split at c4
  ·rename_i x hx
   have h1:=List.mem_of_find?_eq_some hx
   have h2:=List.find?_some hx
   simp only[decide_eq_true_eq]at h2
   have key:∀x∈j3,x.1.size<=10:=by decide +kernel
   rw[<-h2];exact key x h1
  ·exact absurd rfl c4
 ·have:o.name=ByteArray.empty:=Classical.byContradiction fun e=>c2 (by unfold iG;simp[k,e])
  rw[this];decide
theorem w7{q b:Int}:∀{l:List bI}{i:Nat}{n:Int},(h_ q b l i n).2=0->∀o∈l,o.name.size<=10
 |[],_,_,_,o,ho=>by cases ho
 |y::l,i,n,h,o,ho=>by
  unfold h_ at h
  by_cases c1:jJ q b y≠0
  ·rw[zX c1]at h;exact absurd h c1
  rw[zW c1]at h
  by_cases c2:36<n+fu y
  ·rw[zX c2]at h;exact absurd (show(116:Int)=0 from h) (by decide)
  rw[zW c2]at h
  rcases List.mem_cons.1 ho with e |ho
  ·subst e;exact I5 (q:=q) (b:=b) (Classical.not_not.1 c1)
  ·exact w7 h o ho
structure uX (r:Row):Prop where
 kind:r.kind.size<=40
 name:r.name.size<=40
 args:∀g∈r.args,g.name.size<=40
 len:r.args.length<=200
theorem FV{l:List Arg}(h:∀g∈l,g.name.size<=40):(l.map fun g=>g.name.size+30).sum<=70*l.length:=by
 induction l with
 |nil=>simp
 |cons g l ih=>
  have h1:=h g (by simp)
  have h2:=ih fun g hg=>h g (by simp[hg])
  simp only[List.map_cons,List.sum_cons,List.length_cons];omega
theorem uX.big{r:Row}(h:uX r):lG r:=by
 have h1:=FV h.args
 have:=h.kind;have:=h.name;have:=h.len
 exact⟨by omega,by omega,fun g hg=>by have:=h.args g hg;omega,by omega,by omega⟩
theorem K7{r:Row}(hb:uX r)(hI:tD r)(h0:0<=r.num)(h1:r.num<=9007199254740991):(ky r).length<=15000:=by
 have:=s_ hI;have:=FV hb.args;have:=hb.kind;have:=hb.name;have:=hb.len
 have e1:(ls r.kind).length=r.kind.size:=rfl
 have e2:(ls r.name).length=r.name.size:=rfl
 have hi:=Lib.itoa_length_le r.num (by omega) (by omega)
 have hb:(lP r).length<=100:=by
  unfold lP
  split
  ·omega
  ·split
   ·omega
   ·simp only[List.length_append,List.length_cons];omega
 unfold ky
 simp only[List.length_append]
 have:(if qy r.kind=true then 32::Lib.itoa r.num else[]).length<=22:=by split<;>simp<;>omega
 omega
theorem JI(n:Nat):∀{d:Nat}{ind:List UInt8}{rows:List Row},rows.length<n->cw d rows=true->ind.length<=2*d->(∀r∈rows,uX r)->(eS ind rows).length<=rows.length*16000:=by
 induction n with
 |zero=>intro d ind rows h;omega
 |succ n ih=>
  intro d ind rows hn cS hi hB
  cases rows with
  |nil=>rw[vL];simp
  |cons r rest=>
   obtain⟨hd,pk,oH,mR,fe,Dd,mL⟩:=BX cS
   have qA:=Cf pk
   have hh:=K7 (hB r (by simp)) qA.2.2 qA.1 qA.2.1
   simp only[List.length_cons]at hn
   have aM:(rest.take r.rows.toNat).length<n:=by rw[yA];omega
   have PH:(rest.drop r.rows.toNat).length<n:=by rw[List.length_drop];omega
   have h1:=ih aM fe (ind:=ind++[32,32]) (by simp;omega) (fun z hz=>hB z (by simp[List.mem_of_mem_take hz]))
   have h2:=ih PH mL hi (fun z hz=>hB z (by simp[List.mem_of_mem_drop hz]))
   have hs:(rest.take r.rows.toNat).length+(rest.drop r.rows.toNat).length=rest.length:=by rw[<-List.length_append,List.take_append_drop]
   rw[ug]
   simp only[List.length_append,List.length_cons]
   have h3:(if gM r.kind=true then[32,123,10]++eS (ind++[32,32]) (rest.take r.rows.toNat)++ind++[125,10] else[59,10]).length<=5+(rest.take r.rows.toNat).length*16000+ind.length:=by
    split
    ·simp only[List.length_append,List.length_cons,List.length_nil];omega
    ·simp;omega
   have h4:(rest.length+1)*16000=(rest.take r.rows.toNat).length*16000+(rest.drop r.rows.toNat).length*16000+16000:=by rw[<-hs];simp only[Nat.add_mul,Nat.one_mul]
   omega
theorem uM{k:Nat}(h:k<=1000):(bs (iM k)).size<=40:=by
 have e:(bs (iM k)).size=(iM k).length:=by simp[bs,ByteArray.size]
 have h1:=Lib.itoa_length_le (k:Int) (by omega) (by omega)
 have h2:Lib.itoa (k:Int)=Lib.decDigits k:=Lib.itoa_nonneg k
 rw[h2]at h1
 rw[e,iM,List.length_cons];omega
theorem B3{aq:List (Int×Int)}{y:Nat×(Int×Int)}(h:y∈bS aq):y.1<aq.length/\y.2∈aq:=by
 obtain⟨i,hi⟩:=List.mem_iff_getElem?.1 h
 rw[jv]at hi
 obtain⟨g,hg,rfl⟩:=Option.map_eq_some_iff.1 hi
 exact⟨(zM.1 hg).1,zP hg⟩
theorem QQ{o:bI}{aq:List (Int×Int)}(hn:o.name.size<=10)(hq:o.az.length<=100)(hr:aq.length<=64):uX (ee o aq):=by
 have AZ:∀g∈dj o,g.name.size<=40:=fun g hg=>by
  simp only[dj,List.mem_map]at hg
  obtain⟨_,_,rfl⟩:=hg
  show(1:Nat)<=40;omega
 have ln:(dj o).length<=100:=by simpa[dj] using hq
 unfold ee
 split
 ·refine⟨by show(7:Nat)<=40;omega,by show(0:Nat)<=40;omega,fun g hg=>?_,?_⟩
  ·rcases List.mem_append.1 hg with hg |hg
   ·exact AZ g hg
   ·simp only[d_,List.mem_flatMap]at hg
    obtain⟨y,hy,hg⟩:=hg
    have:=B3 hy
    split at hg
    ·simp only[List.mem_singleton]at hg;subst hg;exact uM (by omega)
    ·cases hg
  ·have:=tz (b:=o.bit) (l:=bS aq)
   rw[dX]at this
   show(dj o++d_ o.bit (bS aq)).length<=200
   rw[List.length_append];omega
 ·split
  ·exact⟨by show(5:Nat)<=40;omega,by show(0:Nat)<=40;omega,AZ,by show(dj o).length<=200;omega⟩
  ·exact⟨by show(3:Nat)<=40;omega,by show o.name.size<=40;omega,AZ,by show(dj o).length<=200;omega⟩
theorem Wa{o:bI}{aq:List (Int×Int)}(hn:o.name.size<=10)(hq:o.az.length<=100)(hr:aq.length<=64):∀r∈rG aq o,uX r:=by
 intro r wx
 unfold rG at wx
 rcases List.mem_append.1 wx with h |h
 ·simp only[kc,List.mem_mapIdx]at h
  obtain⟨i,hi,rfl⟩:=h
  have hm:=List.getElem_mem hi
  generalize (dU o (bS aq))[i]=r at hm
  simp only[dU,List.mem_map,List.mem_filter]at hm
  obtain⟨y,⟨hy,_⟩,rfl⟩:=hm
  have:=B3 hy
  exact⟨by show(2:Nat)<=40;omega,uM (k:=y.1) (by omega),(fun g hg=>by cases hg),by show(0:Nat)<=200;omega⟩
 ·simp only[List.mem_singleton]at h
  subst h;exact QQ hn hq hr
theorem O9{aq:List (Int×Int)}(hr:aq.length<=64):∀{l:List bI}{A:List Row},(∀o∈l,o.name.size<=10/\o.az.length<=100)->iP aq l=some A->(∀r∈A,uX r)/\A.length<=33*l.length
 |[],A,_,h=>by simp only[iP,zQ]at h;subst h;simp
 |o::l,A,ho,h=>by
  simp only[iP]at h
  by_cases c:32<(dU o (bS aq)).length
  ·rw[zX c]at h;cases h
  rw[zW c]at h
  obtain⟨B,hB,rfl⟩:=Option.map_eq_some_iff.1 h
  have ih:=O9 hr (fun o dJ=>ho o (by simp[dJ])) hB
  have h1:=ho o (by simp)
  refine⟨fun r wx=>?_,?_⟩
  ·rcases List.mem_append.1 wx with h |h
   ·exact Wa h1.1 h1.2 hr r h
   ·exact ih.1 r h
  ·have:(rG aq o).length=(dU o (bS aq)).length+1:=by simp[rG,rI]
   rw[List.length_append,this,List.length_cons];omega
theorem UA{q:Int}{aq:List (Int×Int)}(hr:aq.length<=64):∀r∈fP q aq,uX r:=by
 intro r h
 unfold fP at h
 rcases List.mem_append.1 h with h |h
 ·split at h
  ·simp only[List.mem_singleton]at h;subst h
   exact⟨by show(6:Nat)<=40;omega,by show(1:Nat)<=40;omega,(fun g hg=>by cases hg),by show(0:Nat)<=200;omega⟩
  ·cases h
 ·simp only[List.mem_map]at h
  obtain⟨y,hy,rfl⟩:=h
  have:=B3 hy
  exact⟨by show(4:Nat)<=40;omega,uM (k:=y.1) (by omega),(fun g hg=>by cases hg),by show(0:Nat)<=200;omega⟩
theorem Dy{q b:Int}{l:List bI}(h:(fg q b l).2=0):OU q b l:=by
 obtain⟨hb,hq,hl,ho⟩:=NQ h
 have hn:∀o∈l,o.name.size<=10:=by
  unfold fg at h
  rw[zW (by omega),zW (by omega)]at h
  exact w7 h
 have mR:=(zs (ops:=l) hb).len
 refine⟨hb,hl,ho,fun r hr=>?_⟩
 unfold st at hr
 obtain⟨A,hA,rfl⟩:=Option.map_eq_some_iff.1 hr
 obtain⟨h1,h2⟩:=O9 mR (fun o dJ=>⟨hn o dJ,(ho o dJ).ql⟩) hA
 have hS:∀y∈fP q (bN l b.toNat)++A,uX y:=fun y hy=>by
  rcases List.mem_append.1 hy with h |h
  ·exact UA mR y h
  ·exact h1 y h
 refine⟨fun y hy=>(hS y hy).big,fun cS=>?_⟩
 have:=JI _ (Nat.lt_succ_self _) cS (ind:=[]) (by simp) hS
 have h3:=Da (q:=q) mR
 rw[List.length_append]at this
 omega
end
section
open Go.Ab
attribute [-simp] aN aD
theorem Ia(rows:List Row):∃t c,ig rows=[S t,I c]:=by
 unfold ig
 split
 ·split
  ·exact⟨_,_,rfl⟩
  ·exact⟨_,_,rfl⟩
 ·exact⟨_,_,rfl⟩
theorem Ic(e q b:Int)(l:List bI):∃t c,nB e q b l=[S t,I c]:=by
 unfold nB
 split
 ·exact⟨_,_,rfl⟩
 ·split
  ·exact⟨_,_,rfl⟩
  ·exact Ia _
section
variable {h:AH} {M:Nat->Prop} {R:AE->AH->Prop} {q b:Int} {x:AV} {yl:List (bI×AV)}
theorem KD(hx:kN h x yl)(ht:cp 0 h)(oI:0<h.next)(ln:∀y∈yl,y.1.az.length<=9223372036854775807)(hm:∀o∈yl.map (·.1),xg o)
  (hR:∀h',Fr h h' (fun _=>False)->R (.ret (B true)) h'):ay Pg 3 [.agg [I q,I b,x]] h M R:=by
 apply F3.aI
 unfold F3.aP
 refine cW (cs:=[I q,I b,x]) (by show(true&&(true&&(cB x&&true)))=true;rw[hx.dy.one.1];rfl) fun vc h1 f1 tN oc=>?_
 unfold F3.n9
 refine⟨fun _=>False,fun _ h=>h.elim,NV fun h2 f2=>?_⟩
 have cu:=f1.bO f2
 simp only[dR,zS,F3.n8,ao,zE,zC,zD,zH]
 unfold F3.n6
 refine dN (f2.bQ oc) rfl fun _=>?_
 refine⟨fun _=>False,fun _ h=>h.elim,Gv (hx.bp cu) ln (fun e=>Dy (by rw[<-By hm];exact e)) fun h3 f3=>?_⟩
 rw[By hm]
 have eO:=cu.bO f3
 obtain⟨t,c,hs⟩:=Ic (fg q b (yl.map (·.1))).2 q b (yl.map (·.1))
 rw[hs]
 simp only[dx,zA,zB,ah]
 unfold F3.n5
 refine dN (f3.bQ (f2.bQ oc)) rfl fun _=>?_
 refine⟨fun _=>False,fun _ h=>h.elim,Fx (hx.bp eO) (cp.bp ht eO) (Nat.lt_of_lt_of_le oI eO.next) ln (fun e=>Dy e) fun h4 f4=>?_⟩
 rw[hs]
 have kl:=eO.bO f4
 simp only[dx,zA,zB,ah,F3.n4,cU,decide_true,F3.n3,dl,zS,zF,zC,zD,zI,dD,beq_self_eq_true,F3.n2,cD,zV,F3.n1]
 simp
 exact hR h4 kl
end
end
end Go.Proofs.YtjehibknlmehmaaGreatDoor
