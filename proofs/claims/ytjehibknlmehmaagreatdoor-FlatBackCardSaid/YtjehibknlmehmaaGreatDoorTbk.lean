/- The rows of a circuit; both Shows tell the same. No condition. -/
import Derived.Test.YtjehibknlmehmaaGreatDoorTak
set_option maxRecDepth 100000
namespace Go.Proofs.YtjehibknlmehmaaGreatDoor
section
open Go.Ab
attribute [-simp] aH az
section
variable {α:Type} {f:α->List AV} {sz bytes:Nat} {ty:TypeId} {h:AH} {W:Nat->Prop}
theorem acA{K:AV->AH->Prop}{x v:AV}{l m:List α}(hf:∀x,(f x).length=sz)(hb:bytes<=1024)(hl:bC f sz ty h x l)(hm:bC f sz ty h v m)(hw:df W x)(hn:l.length+m.length<=100000000)
  (hK:∀y h',bC f sz ty h' y (l++m)->(y=x\/df (h.next<=·) y)->Fr h h' (fun i=>∃off n,x=.sl i off n)->K y h'):eh (some (sz,bytes,ty)) x v h W K:=by
 have Dk:(m.flatMap f).length=m.length*sz:=gD hf m
 have Lz:(l.flatMap f).length=l.length*sz:=gD hf l
 have wO:(l.length+m.length)*bytes<=140737488355328:=by
  have:(l.length+m.length)*bytes<=100000000*1024:=Nat.mul_le_mul hn hb
  omega
 have hv:news sz v h m.length (m.flatMap f):=by
  rcases hm with⟨rfl,rfl⟩ |⟨id,rfl,ho⟩
  ·exact⟨rfl,rfl⟩
  ·refine .inr ⟨by simp,_,ho,rfl,by simp[aI,Dk],?_⟩
   simp only[aI,List.drop_zero]
   rw[List.take_of_length_le (by omega)]
 refine⟨m.length,m.flatMap f,hv,?_⟩
 rcases hl with⟨rfl,rfl⟩ |⟨id,rfl,ho⟩
 ·show if m.length=0 then _ else _
  by_cases h0:m.length=0
  ·rw[zX h0]
   have:m=[]:=List.length_eq_zero_iff.1 h0
   subst this
   exact hK aV h .nil (.inl rfl) Fr.refl
  ·rw[zW h0]
   refine⟨⟨by omega,by simpa using wO⟩,?_⟩
   refine hK _ _ (.inr ⟨h.next,by simp,by rw[AH.cg];simp[aI]⟩) (.inr fun i of n e=>by cases e;exact zU _) (Fr.refl.alloc _)
 ·show if m.length=0 then _ else _
  by_cases h0:m.length=0
  ·rw[zX h0]
   have:m=[]:=List.length_eq_zero_iff.1 h0
   subst this
   exact hK _ h (.inr ⟨id,by simp,by simpa using ho⟩) (.inl rfl) Fr.refl
  ·rw[zW h0]
   have hid:=h.lt _ _ ho
   refine⟨rfl,_,⟨hw _ _ _ rfl,ho,rfl,rfl,rfl,rfl,by simp[aI,Lz],by omega,wO⟩,?_⟩
   refine hK _ _ (.inr ⟨h.next,by simp,?_⟩) (.inr fun i of n e=>by cases e;exact zU _) ?_
   ·rw[AH.bJ,zX (by simp[AH.fw])]
    simp only[aI]
    rw[List.take_of_length_le (by omega),List.flatMap_append]
   ·refine⟨by simp only[AH.bD,AH.fw];omega,fun i hi b7=>?_⟩
    rw[AH.alloc_old (by simp only[AH.fw];omega),AH.qX fun e=>b7 ⟨_,_,by rw[e]⟩]
end
def ul(ao:List (Int×Int))(o:bq):List Row:=jZ (dA o (du ao))++[cp o ao]
def iO(q:Int)(ao:List (Int×Int)):List Row:=(if 0<q then[⟨aS,bs [113],[],q,0,0⟩] else[])++(du ao).map fun y=>⟨bz,bs (cB y.1),[],y.2.2,0,0⟩
def gQ(ao:List (Int×Int)):List bq->Option (List Row)
 |[]=>some []
 |o::l=>if 32<(dA o (du ao)).length then none else(gQ ao l).map (ul ao o++·)
theorem zx{ao:List (Int×Int)}:∀{l m:List bq},gQ ao (l++m)=(gQ ao l).bind fun a=>(gQ ao m).map (a++·)
 |[],m=>by simp[gQ]
 |o::l,m=>by
  simp only[List.cons_append,gQ,zx (l:=l)]
  split
  ·rfl
  ·cases gQ ao l<;>cases gQ ao m<;>simp
end
section
open Go.Ab
attribute [-simp] aH az
section
variable {W:Nat->Prop} {QR QN:VK} {QE:Nat->VK} {QP:AV->AH->Prop} {h0 h:AH} {R:AE->AH->Prop} {vc:Nat} {q b:Int} {x x7 xr:AV} {yl:List (bq×AV)} {ao:List (Int×Int)}
structure SH (W:Nat->Prop) (h0 h:AH) (vc:Nat) (q b:Int) (x xr:AV) (yl:List (bq×AV)) (ao:List (Int×Int)):Prop where
 oc:h.obj vc=some (aI [I q,I b,x] 3 24)
 x:lZ h x yl
 r:cb We 3 48 h xr (du ao)
 W:∀id,h0.next<=id->W id
 f:Fr h0 h (fun _=>False)
theorem SH.fr{h':AH}{S:Nat->Prop}(d:SH W h0 h vc q b x xr yl ao)(f:Fr h h' S)(hs:∀i,S i->h0.next<=i/\∀cs sz ty ro kd,h.obj i=some { cells:=cs,sz:=sz,ty:=ty,ro:=ro,kind:=kd }->ro=false/\ty≠24/\ty≠38/\ty≠3/\ty≠48):SH W h0 h' vc q b x xr yl ao:=by
 refine⟨f.obj d.oc fun e=>((hs _ e).2 _ _ _ _ _ d.oc).2.1 rfl,⟨d.x.dQ.fr f fun i ob ho ht e=>?_,fun y hy=>(d.x.qs y hy).fr f fun i ob ho ht e=>?_⟩,d.r.fr f fun i ob ho ht e=>?_,d.W,oD d.f f fun i hi=>(hs i hi).1⟩
 ·obtain⟨a,_,c,_⟩:=(hs _ e).2 _ _ _ _ _ (show h.obj i=some { cells:=ob.cells,sz:=ob.sz,ty:=ob.ty,ro:=ob.ro,kind:=ob.kind } from ho)
  exact c (ht a)
 ·obtain⟨a,_,_,c,_⟩:=(hs _ e).2 _ _ _ _ _ (show h.obj i=some { cells:=ob.cells,sz:=ob.sz,ty:=ob.ty,ro:=ob.ro,kind:=ob.kind } from ho)
  exact c (ht a)
 ·obtain⟨a,_,_,_,c⟩:=(hs _ e).2 _ _ _ _ _ (show h.obj i=some { cells:=ob.cells,sz:=ob.sz,ty:=ob.ty,ro:=ob.ro,kind:=ob.kind } from ho)
  exact c (ht a)
theorem SH.be{h':AH}(d:SH W h0 h vc q b x xr yl ao)(f:Fr h h' fun _=>False):SH W h0 h' vc q b x xr yl ao:=d.fr f fun _ h=>h.elim
theorem SH.dY{h':AH}{α:Type}{f:α->List AV}{L:List α}(d:SH W h0 h vc q b x xr yl ao)(hS:bC f 6 46 h x7 L)(hI:df (h0.next<=·) x7)(fr:Fr h h' (fun i=>∃off n,x7=.sl i off n)):SH W h0 h' vc q b x xr yl ao:=by
 refine d.fr fr fun i ⟨off,n,e⟩=>⟨hI i _ _ e,fun cs sz ty ro kd ho=>?_⟩
 rcases hS with⟨e2,_⟩ |⟨j,e2,hj⟩
 ·rw[e2]at e;cases e
 ·rw[e2]at e;cases e
  rw[hj]at ho;cases ho
  exact⟨rfl,by decide,by decide,by decide,by decide⟩
theorem Ii{k s:ByteArray}{n:Int}:dU (fun i=>[(0,1),(1,1),(2,1),(3,1),(4,1),(5,1)][i]?) ([Value.string ⟨#[]⟩,.string ⟨#[]⟩,.slice none 0 0,.int .i64 0,.int .i64 0,.int .i64 0].map .sc) [(0,Sb k),(1,Sb s),(3,I n)]=some [Sb k,Sb s,aV,I n,I 0,I 0]:=rfl
def TV(q:Int):Row:=⟨aS,bs [113],[],q,0,0⟩
def Cw(y:Nat×(Int×Int)):Row:=⟨bz,bs (cB y.1),[],y.2.2,0,0⟩
end
end
section
open Go.Ab
attribute [-simp] aH az
structure Ir (b:Int) (o:bq):Prop where
 ql:o.aD.length<=100
 bit:0<=o.bit/\o.bit<=100
 m:o.kind=2->(0<=o.bit/\o.bit<b)/\∃q0,o.aD=[q0]
structure Q_ (b:Int) (ao:List (Int×Int)):Prop where
 Mp:fi ao 0 b
 len:ao.length<=64
 g:∀g∈ao,0<=g.1/\g.1<=100/\1<=g.2/\g.2<=32
structure TL (h0 h:AH) (x:AV) (l:List (Row×AV)):Prop where
 dQ:bC ay 6 46 h x l
 args:∀y∈l,bC Arg.enc 2 67 h y.2 y.1.args
 new:df (h0.next<=·) x
theorem TL.rows{h0 h:AH}{x:AV}{l:List (Row×AV)}(t:TL h0 h x l):ou h x l:=⟨t.dQ.gy,fun y hy=>(t.args y hy).gy⟩
theorem TL.be{h0 h h':AH}{x:AV}{l:List (Row×AV)}(t:TL h0 h x l)(f:Fr h h' fun _=>False):TL h0 h' x l:=⟨kX t.dQ f fun _ _ _ h=>h,fun y hy=>kX (t.args y hy) f fun _ _ _ h=>h,t.new⟩
theorem pd{L:List Row}:(jZ L).length=L.length:=by simp[jZ]
theorem KX{L:List Row}(h:∀r∈L,r.args=[]):∀r∈jZ L,r.args=[]:=by
 intro r hr
 simp only[jZ,List.mem_mapIdx]at hr
 obtain⟨i,hi,e⟩:=hr
 subst e
 exact h L[i] (List.getElem_mem hi)
theorem Ll{o:bq}{L:List (Nat×(Int×Int))}:∀r∈dA o L,r.args=[]:=by
 intro r hr
 simp only[dA,List.mem_map]at hr
 obtain⟨y,_,e⟩:=hr
 subst e;rfl
end
section
open Go.Ab
attribute [-simp] aH az
end
section
open Go.Ab
attribute [-simp] aH az
theorem Gj:∀{l:List (Int×Int)}{a b:Int},fi l a b->∀g∈l,a<=g.1/\g.1+g.2<=b
 |[],_,_,_,g,hg=>by cases hg
 |y::l,a,b,h,g,hg=>by
  obtain⟨h1,h2,h3⟩:=h
  have h4:=fi.le h3
  rcases List.mem_cons.1 hg with e |hg
  ·subst e;exact⟨by omega,by omega⟩
  ·have:=Gj h3 g hg
   exact⟨by omega,by omega⟩
theorem Ap{ops:List bq}{b:Int}(hb:0<=b/\b<=64):Q_ b (b5 ops b.toNat):=by
 have hc:=xf ops b.toNat
 have e:((b.toNat:Nat):Int)=b:=by omega
 rw[e]at hc
 refine⟨hc,by have:=(xe ops b.toNat).1;omega,fun g hg=>?_⟩
 have h1:=Gj hc g hg
 have h2:=pz ops b.toNat g hg
 omega
def nS(q b:Int)(ops:List bq):Option (List Row):=(gQ (b5 ops b.toNat) ops).map (iO q (b5 ops b.toNat)++·)
def rX(e q b:Int)(ops:List bq):List AV:=if e≠0 then[S [],I e] else match nS q b ops with
 |none=>[S [],I 102]
 |some r=>rW r
structure Xj (q b:Int) (ops:List bq):Prop where
 bR:0<=b/\b<=64
 len:ops.length<=4096
 op:∀o∈ops,Ir b o
 rows:∀r,nS q b ops=some r->(∀y∈r,uX y)/\(di 0 r=true->(fK [] r).length<=1000000000000)
end
section
open Go.Ab
theorem Mz(n:ByteArray):0<=dE n/\dE n<=100:=by
 unfold dE
 split
 ·rename_i x hx
  have h1:=List.mem_of_find?_eq_some hx
  have key:∀x∈kB,0<=x.2.1/\x.2.1<=100:=by decide +kernel
  exact key x h1
 ·omega
theorem Oy{q b:Int}{o:bq}(hb:0<=b/\b<=64)(h:iX q b o=0):Ir b o:=by
 unfold iX at h
 by_cases c1:pK b o=true
 ·rw[zX c1]at h;exact absurd h (by decide)
 rw[zW c1]at h
 by_cases c2:kE o=true
 ·rw[zX c2]at h;exact absurd h (by decide)
 rw[zW c2]at h
 by_cases c3:o.kind=1/\dE o.name=0
 ·rw[zX c3]at h;exact absurd h (by decide)
 rw[zW c3]at h
 by_cases c4:(o.aD.length:Int)≠tz o
 ·rw[zX c4]at h;exact absurd h (by decide)
 rw[zW c4]at h
 by_cases c5:qj q o.aD=true
 ·rw[zX c5]at h;exact absurd h (by decide)
 rw[zW c5]at h
 by_cases c6:o.kind=2/\(o.bit<0\/b<=o.bit)
 ·rw[zX c6]at h;exact absurd h (by decide)
 have Q3:(o.aD.length:Int)=tz o:=by omega
 have hnq:=Mz o.name
 have VO:o.kind=2->0<=o.bit/\o.bit<b:=fun k=>by
  have:¬(o.bit<0\/b<=o.bit):=fun e=>c6 ⟨k,e⟩
  omega
 have XT:o.kind≠2->o.bit=0:=fun k=>by
  by_cases e:o.bit=0
  ·exact e
  ·exfalso;apply c2
   unfold kE
   simp[k,e]
 refine⟨?_,?_,fun k=>⟨VO k,?_⟩⟩
 ·unfold tz at Q3
  split at Q3<;>omega
 ·by_cases k:o.kind=2
  ·have:=VO k;omega
  ·rw[XT k];omega
 ·have hn:o.aD.length=1:=by
   have k1:¬o.kind=1:=by omega
   unfold tz at Q3
   rw[zW k1]at Q3
   omega
  match hq:o.aD with
  |[]=>rw[hq]at hn;cases hn
  |[q0]=>exact⟨q0,rfl⟩
  |_::_::_=>rw[hq]at hn;simp at hn
theorem BP{q b:Int}(hb:0<=b/\b<=64):∀{l:List bq}{i:Nat}{n:Int},(gI q b l i n).2=0->∀o∈l,Ir b o
 |[],_,_,_,o,ho=>by cases ho
 |y::l,i,n,h,o,ho=>by
  unfold gI at h
  by_cases c1:iX q b y≠0
  ·rw[zX c1]at h;exact absurd h c1
  rw[zW c1]at h
  by_cases c2:36<n+ji y
  ·rw[zX c2]at h;exact absurd (show(116:Int)=0 from h) (by decide)
  rw[zW c2]at h
  rcases List.mem_cons.1 ho with e |ho
  ·subst e;exact Oy (q:=q) hb (Classical.not_not.1 c1)
  ·exact BP hb h o ho
theorem Gn{q b:Int}{l:List bq}(h:(eR q b l).2=0):(0<=b/\b<=64)/\(0<=q/\q<=64)/\l.length<=4096/\∀o∈l,Ir b o:=by
 unfold eR at h
 by_cases c1:q<0\/64<q\/b<0\/64<b
 ·rw[zX c1]at h;exact absurd h (by decide)
 rw[zW c1]at h
 by_cases c2:4096<l.length
 ·rw[zX c2]at h;exact absurd h (by decide)
 rw[zW c2]at h
 exact⟨by omega,by omega,by omega,BP (by omega) h⟩
end
section
open Go.Ab
attribute [-simp] aH az
section
variable {W:Nat->Prop} {QR QN:VK} {QE:Nat->VK} {QP:AV->AH->Prop} {h0 h:AH} {R:AE->AH->Prop} {vc:Nat} {q b:Int} {x x7 xr:AV} {yl:List (bq×AV)} {ao:List (Int×Int)}
structure SG (W:Nat->Prop) (h0 h:AH) (vc:Nat) (q b:Int) (x xr:AV) (yl:List (bq×AV)) (ao:List (Int×Int)):Prop where
 oc:h.obj vc=some (aI [I q,I b,x] 3 24)
 x:lZ h x yl
 r:cb lU 2 56 h xr ao
 W:∀id,h0.next<=id->W id
 f:Fr h0 h (fun _=>False)
 t:bS 0 h
 p:0<h0.next
theorem SG.fr{h':AH}{S:Nat->Prop}(d:SG W h0 h vc q b x xr yl ao)(f:Fr h h' S)(hs:∀i,S i->h0.next<=i/\∀cs sz ty ro kd,h.obj i=some { cells:=cs,sz:=sz,ty:=ty,ro:=ro,kind:=kd }->ro=false/\ty≠24/\ty≠38/\ty≠3/\ty≠56):SG W h0 h' vc q b x xr yl ao:=by
 refine⟨f.obj d.oc fun e=>((hs _ e).2 _ _ _ _ _ d.oc).2.1 rfl,⟨d.x.dQ.fr f fun i ob ho ht e=>?_,fun y hy=>(d.x.qs y hy).fr f fun i ob ho ht e=>?_⟩,d.r.fr f fun i ob ho ht e=>?_,d.W,oD d.f f fun i hi=>(hs i hi).1,bS.se d.t d.f.next d.p f fun i hi=>(hs i hi).1,d.p⟩
 ·obtain⟨a,_,c,_⟩:=(hs _ e).2 _ _ _ _ _ (show h.obj i=some { cells:=ob.cells,sz:=ob.sz,ty:=ob.ty,ro:=ob.ro,kind:=ob.kind } from ho)
  exact c (ht a)
 ·obtain⟨a,_,_,c,_⟩:=(hs _ e).2 _ _ _ _ _ (show h.obj i=some { cells:=ob.cells,sz:=ob.sz,ty:=ob.ty,ro:=ob.ro,kind:=ob.kind } from ho)
  exact c (ht a)
 ·obtain⟨a,_,_,_,c⟩:=(hs _ e).2 _ _ _ _ _ (show h.obj i=some { cells:=ob.cells,sz:=ob.sz,ty:=ob.ty,ro:=ob.ro,kind:=ob.kind } from ho)
  exact c (ht a)
theorem SG.be{h':AH}(d:SG W h0 h vc q b x xr yl ao)(f:Fr h h' fun _=>False):SG W h0 h' vc q b x xr yl ao:=d.fr f fun _ h=>h.elim
theorem SG.dY{h':AH}{α:Type}{f:α->List AV}{L:List α}(d:SG W h0 h vc q b x xr yl ao)(hS:bC f 6 46 h x7 L)(hI:df (h0.next<=·) x7)(fr:Fr h h' (fun i=>∃off n,x7=.sl i off n)):SG W h0 h' vc q b x xr yl ao:=by
 refine d.fr fr fun i ⟨off,n,e⟩=>⟨hI i _ _ e,fun cs sz ty ro kd ho=>?_⟩
 rcases hS with⟨e2,_⟩ |⟨j,e2,hj⟩
 ·rw[e2]at e;cases e
 ·rw[e2]at e;cases e
  rw[hj]at ho;cases ho
  exact⟨rfl,by decide,by decide,by decide,by decide⟩
theorem S3{A:List Row}{x6:AV}(rB:ao.length<=64)(hA:A.length<=1)(d:SG W h0 h vc q b x xr yl ao)(hS:bC jE 6 46 h x6 A)(hI:df (h0.next<=·) x6)
  (hR:∀x6 h',SG W h0 h' vc q b x xr yl ao->bC jE 6 46 h' x6 (A++(du ao).map Cw)->df (h0.next<=·) x6->F7.cU W QR QN QE QP (.ptr vc 0) x6 xr h') :
  F7.ir W QR QN QE QP (.ptr vc 0) x6 xr h:=by
 unfold F7.ir
 simp only[d.r.len.1,d.r.len.2,zH]
 unfold F7.jD
 refine cJ (ι:=Nat×AV) (fun s v h'=>v=[.ptr vc 0,s.2,xr,xr,I ao.length,I s.1]/\s.1<=ao.length/\SG W h0 h' vc q b x xr yl ao/\bC jE 6 46 h' s.2 (A++((du ao).take s.1).map Cw)/\df (h0.next<=·) s.2) (fun s=>ao.length-s.1) (0,x6) ⟨rfl,by omega,d,by simpa using hS,hI⟩ ?_
 clear d hS hI
 rintro K ⟨k,x6⟩ v h' ⟨rfl,hk,d,hS,hI⟩ step
 simp only at hk d hS hI
 have w3:IntKind.i64.wrap ((k:Int)+1)=((k+1:Nat):Int):=by rw[aX (by omega) (by omega)];simp
 simp only[F7.V6,zN,zO,F7.jp,bu]
 by_cases aJ:k<ao.length
 ·have dZ:(k:Int)<ao.length:=by omega
  have g0:ao[k]?=some ao[k]:=zJ aJ
  generalize ao[k]=g at *
  have Vx:(du ao)[k]?=some (k,g):=by rw[nz,g0];rfl
  have iz:(du ao).take (k+1)=(du ao).take k++[(k,g)]:=by rw[List.take_add_one,Vx];rfl
  simp only[zL dZ,F7.fq,ap,zD,zF,zC,zI]
  unfold F7.ea
  refine nT d.r lT g0 fun _=>?_
  refine fV (cs:=lU g) (uF g) rfl rfl rfl (fun id hid=>d.W id (zR d.f.next hid)) fun v9 h2 f2 Y_ o9=>?_
  have d2:=d.be f2
  have rF:=kX hS f2 fun _ _ _ h=>h
  unfold F7.dV
  refine l8 o9 rfl fun _=>?_
  refine⟨fun _=>False,fun _ h=>h.elim,uN (by omega) d2.t ?_⟩
  refine⟨_,Ii (k:=bz),?_⟩
  refine sN (f:=jE) (sz:=6) (bytes:=80) (ty:=46) (z:=[.string ⟨#[]⟩,.string ⟨#[]⟩,.slice none 0 0,.int .i64 0,.int .i64 0,.int .i64 0]) (t:=Cw (k,g)) rJ (by omega) rfl Am (by decide) rF (fun i of n e=>d.W i (hI i of n e)) (by rw[List.length_append,zZ,yA];omega) fun v y h3 oP rG f3=>?_
  simp only[F7.dG,bg,w3]
  refine step (k+1,y) _ _ (by show _<_;omega) ⟨rfl,by show k+1<=_;omega,d2.dY rF hI f3,?_,fun i of n e=>zR d2.f.next (rG i of n e)⟩
  show bC jE 6 46 h3 y (A++((du ao).take (k+1)).map Cw)
  rw[iz,List.map_append,<-List.append_assoc];exact oP
 ·have vq:k=ao.length:=by omega
  have eG:¬((k:Int)<ao.length):=by omega
  rw[vq,List.take_of_length_le (by rw[ny];omega)]at hS
  simp only[zK eG,F7.fq,ap,zE,zD,zC,zH,zV,zN,zO]
  exact hR x6 h' d hS hI
end
end
section
open Go.Ab
attribute [-simp] aH az
section
variable {W:Nat->Prop} {QR QN:VK} {QE:Nat->VK} {QP:AV->AH->Prop} {h0 h:AH} {R:AE->AH->Prop} {vc v11:Nat} {q b b':Int} {x x6 xr cC dB dh:AV} {yl:List (bq×AV)} {ao:List (Int×Int)} {y:bq×AV}
theorem W4(d:SG W h0 h vc q b x xr yl ao)(ov:h.obj v11=some (aI (cK y) 7 38))(rg:Q_ b' ao)
  (hR:∀aP h',Fr h h' (fun _=>False)->bC jE 6 46 h' aP (dA y.1 (du ao))->df (h.next<=·) aP->F7.br W QR QN QE QP x6 xr (.ptr v11 0) aP cC dB dh h') :
  F7.cN W QR QN QE QP x6 xr (.ptr v11 0) cC dB dh h:=by
 unfold F7.cN F7.cL
 simp only[d.r.len.1,d.r.len.2,zH]
 unfold F7.cq
 refine cJ (ι:=Nat×AV) (fun s v h'=>v=[x6,xr,.ptr v11 0,s.2,cC,dB,dh,xr,I ao.length,I s.1]/\s.1<=ao.length/\Fr h h' (fun _=>False)/\bC jE 6 46 h' s.2 (dA y.1 ((du ao).take s.1))/\df (h.next<=·) s.2) (fun s=>ao.length-s.1) (0,aV) ⟨rfl,by omega,Fr.refl,.nil,fun _ _ _ e=>by cases e⟩ ?_
 rintro K ⟨k,aP⟩ v h' ⟨rfl,hk,f,hS,hI⟩ step
 simp only at hk hS hI
 have rB:=rg.len
 have w3:IntKind.i64.wrap ((k:Int)+1)=((k+1:Nat):Int):=by rw[aX (by omega) (by omega)];simp
 have d1:=d.be f
 simp only[F7.FX,zN,zO,F7.cl,bu]
 by_cases aJ:k<ao.length
 ·have dZ:(k:Int)<ao.length:=by omega
  have g0:ao[k]?=some ao[k]:=zJ aJ
  have hg:=rg.g _ (List.getElem_mem aJ)
  generalize ao[k]=g at *
  have Vx:(du ao)[k]?=some (k,g):=by rw[nz,g0];rfl
  have iz:(du ao).take (k+1)=(du ao).take k++[(k,g)]:=by rw[List.take_add_one,Vx];rfl
  have FF:=Fm (o:=y.1) (L:=(du ao).take k)
  rw[yA]at FF
  simp only[zL dZ,F7.bX,ap,zD,zF,zC,zI]
  unfold F7.bT
  refine nT d1.r lT g0 fun _=>?_
  refine fV (cs:=lU g) (uF g) rfl rfl rfl (fun id hid=>d.W id (zR d1.f.next hid)) fun v9 h2 f2 Y_ o9=>?_
  have d2:=d1.be f2
  have bY:=f.bQ f2
  have EZ:=bY.bI ov
  have rF:=kX hS f2 fun _ _ _ h=>h
  unfold F7.bW
  refine l8 EZ rfl fun _=>?_
  refine l8 o9 rfl fun _=>?_
  simp only[wl,hg.1,zH,sd,KL]
  by_cases c:jF y.1.cR g.1=1
  ·have c':(lW (y.1.cR.fdiv (2^(min g.1.toNat IntKind.u64.bits))) 1==1)=true:=by rw[beq_iff_eq];exact c
   have sC:dA y.1 [(k,g)]=[sw y.1 (k,g)]:=by simp[dA,c]
   simp only[c',F7.bN,ap,zD,zF,zC,zI]
   unfold F7.bP
   refine l8 EZ rfl fun _=>?_
   refine l8 o9 rfl fun _=>?_
   simp only[wl,hg.1,zH]
   refine l8 o9 rfl fun _=>?_
   simp only[KJ,CV,Sd hg.2.2,sd]
   refine⟨by omega,?_⟩
   unfold F7.bM
   refine⟨fun _=>False,fun _ h=>h.elim,uN (by omega) d2.t ?_⟩
   simp only[KG]
   refine⟨_,X7,?_⟩
   refine sN (f:=jE) (sz:=6) (bytes:=80) (ty:=46) (z:=[.string ⟨#[]⟩,.string ⟨#[]⟩,.slice none 0 0,.int .i64 0,.int .i64 0,.int .i64 0]) (t:=sw y.1 (k,g)) rJ (by omega) rfl Am (by decide) rF (fun i of n e=>d.W i (zR d.f.next (hI i of n e))) (by omega) fun v z h3 oP rG f3=>?_
   simp only[F7.bF,bg,w3]
   refine step (k+1,z) _ _ (by show _<_;omega) ⟨rfl,by show k+1<=_;omega,oD bY f3 fun i ⟨_,_,e⟩=>hI i _ _ e,?_,fun i of n e=>zR bY.next (rG i of n e)⟩
   show bC jE 6 46 h3 z (dA y.1 ((du ao).take (k+1)))
   rw[iz,Fo,sC];exact oP
  ·have c':(lW (y.1.cR.fdiv (2^(min g.1.toNat IntKind.u64.bits))) 1==1)=false:=by rw[beq_eq_false_iff_ne];exact c
   have sC:dA y.1 [(k,g)]=[]:=by simp[dA,c]
   simp only[c',F7.bN,ap,zE,zD,zC,zH,F7.bF,bg,w3]
   refine step (k+1,aP) _ _ (by show _<_;omega) ⟨rfl,by show k+1<=_;omega,bY,?_,hI⟩
   show bC jE 6 46 h2 aP (dA y.1 ((du ao).take (k+1)))
   rw[iz,Fo,sC,List.append_nil];exact rF
 ·have vq:k=ao.length:=by omega
  have eG:¬((k:Int)<ao.length):=by omega
  rw[vq,List.take_of_length_le (by rw[ny];omega)]at hS
  simp only[zK eG,F7.bX,ap,zE,zD,zC,zH,zV,zN,zO]
  exact hR aP h' f hS hI
end
end
section
open Go.Ab
attribute [-simp] aH az
section
variable {W:Nat->Prop} {QR QN:VK} {QE:Nat->VK} {QP:AV->AH->Prop} {h0 h:AH} {R:AE->AH->Prop} {x6 xr ax aP cC dB dh:AV}
theorem S2{L:List Row}(hW:∀id,h0.next<=id->W id)(f:Fr h0 h (fun _=>False))(hS:bC jE 6 46 h aP L)(hI:df (h0.next<=·) aP)(hL:L.length<=1000)
  (hR:∀h',Fr h0 h' (fun _=>False)->bC jE 6 46 h' aP (jZ L)->F7.n3 W QR QN QE QP x6 xr ax aP cC dB dh h') :
  F7.aZ W QR QN QE QP x6 xr ax aP cC dB dh h:=by
 unfold F7.aZ
 simp only[hS.gy.len.1,hS.gy.len.2,zH]
 unfold F7.n9
 refine cJ (ι:=Nat) (fun s v h'=>v=[x6,xr,ax,aP,cC,dB,dh,I L.length,I s]/\s<=L.length/\Fr h0 h' (fun _=>False)/\bC jE 6 46 h' aP (nV s L)) (fun s=>L.length-s) 0 ⟨rfl,by omega,f,by rw[Un];exact hS⟩ ?_
 clear f hS
 rintro K j v h' ⟨rfl,hj,f,hS⟩ step
 have w3:IntKind.i64.wrap ((j:Int)+1)=((j+1:Nat):Int):=by rw[aX (by omega) (by omega)];simp
 have FI:=hS.gy
 simp only[F7.ju,zN,zO,F7.n8,bu]
 by_cases aJ:j<L.length
 ·have dZ:(j:Int)<L.length:=by omega
  have g0:L[j]?=some L[j]:=zJ aJ
  generalize L[j]=y at *
  have gj:=ND g0
  have w4:IntKind.i64.wrap ((L.length:Int)-j)=(L.length:Int)-j:=aX (by omega) (by omega)
  simp only[zL dZ,F7.n7,ap,zD,zF,zC,zI,F7.n6,F7.n5,FI.len.1,FI.len.2,zH,nh,kO,w4]
  rcases hS with⟨_,e⟩ |⟨id,rfl,ho⟩
  ·have:=congrArg List.length e;rw[nh,List.length_nil]at this;omega
  refine Hx (by rw[nh];omega) ?_
  have mV:j*6+4<((nV j L).flatMap jE).length:=by rw[gD rJ,nh];omega
  simp only[aj,az,ho,eY,cn]
  refine⟨⟨hW _ (hI _ _ _ rfl),rfl,rfl,by show _+1<=_;omega⟩,?_⟩
  have o1:=gW (off:=j*6+4) (cs:=[I ((L.length:Int)-j)]) ho
  have f3:Fr h' (h'.put id (j*6+4) [I ((L.length:Int)-j)]) (·=id):=Fr.refl.put (.inl rfl)
  generalize h'.put id (j*6+4) [I ((L.length:Int)-j)]=h2 at *
  simp only[F7.n4,bg,w3]
  refine step (j+1) _ _ (by show _<_;omega) ⟨rfl,by show j+1<=_;omega,oD f f3 fun i hi=>by subst hi;exact hI _ _ _ rfl,.inr ⟨id,?_,?_⟩⟩
  ·congr 1;rw[nh,nh]
  ·rw[o1,ug rJ gj (by omega) (y:=oW y ((L.length:Int)-j)) (by simp[jE,ay,oW]),NC g0]
 ·have vq:j=L.length:=by omega
  have eG:¬((j:Int)<L.length):=by omega
  rw[vq,NE]at hS
  simp only[zK eG,F7.n7,ap,zE,zD,zC,zH,zV,zN,zO]
  exact hR h' f hS
end
end
section
open Go.Ab
attribute [-simp] aH az
section
variable {W:Nat->Prop} {QR QN:VK} {QE:Nat->VK} {QP:AV->AH->Prop} {h0 h:AH} {R:AE->AH->Prop} {vc v11:Nat} {q b b':Int} {x x6 xr aP cC dB dh:AV} {yl:List (bq×AV)} {ao:List (Int×Int)} {y:bq×AV}
theorem W2{l:List (Row×AV)}{L:List Row}(d:SG W h0 h vc q b x xr yl ao)(t:TL h0 h x6 l)(ov:h.obj v11=some (aI (cK y) 7 38))(hy:cb dx 1 3 h y.2 y.1.aD)(oh:Ir b' y.1)(rg:Q_ b' ao)
  (hS:bC jE 6 46 h aP (jZ L)) (ha:∀r∈L,r.args=[]) (hL:L.length<=1000) (hl:l.length<=200000)
  (hR:∀z xa h',SG W h0 h' vc q b x xr yl ao->TL h0 h' z (l++((jZ L).map (fun r=>(r,aV))++[(cp y.1 ao,xa)]))->F7.n2 W QR QN QE QP z xr cC dB dh h') :
  F7.n3 W QR QN QE QP x6 xr (.ptr v11 0) aP cC dB dh h:=by
 unfold F7.n3
 refine⟨fun _=>v11,fun i _=>by rw[ov];simp,?_⟩
 refine xF ov rfl ⟨rfl,?_⟩
 have hSA:=bC.Ty hS
 have oL:=KX ha
 have IU:∀{α:Type}{f:α->List AV}{L:List α}{z:AV}{h1:AH},bC f 6 46 h1 z L->∀i cs s T,h1.obj i=some (aI cs s T)->T≠46->∀off n,z≠.sl i off n:=fun hz i cs s T hi hT off n e=>by
  rcases hz with⟨e2,_⟩ |⟨j,e2,hj⟩
  ·rw[e2]at e;cases e
  ·rw[e2]at e;cases e
   rw[hj]at hi;injection hi with hi;injection hi with _ _ hi;exact hT hi.symm
 refine acA fX (by decide) t.dQ hSA (fun i of n e=>⟨d.W i (t.new i of n e),fun j _ e2=>?_⟩) (by rw[zZ,pd];omega) fun z h1 hS1 hz f1=>?_
 ·subst e2;exact IU t.dQ _ _ _ _ ov (by decide) of n e
 have d1:=d.dY t.dQ t.new f1
 have hy1:cb dx 1 3 h1 y.2 y.1.aD:=hy.fr f1 fun i ob ho ht ⟨off,n,e⟩=>by
  rcases t.dQ with⟨e2,_⟩ |⟨j,e2,hj⟩
  ·rw[e2]at e;cases e
  ·rw[e2]at e;cases e
   rw[hj]at ho;cases ho
   exact absurd (ht rfl) (show(46:Nat)≠3 by decide)
 refine⟨fun _=>False,fun _ h=>h.elim,FY (o:=y.1) (xq:=y.2) d1.t (Nat.lt_of_lt_of_le d1.p d1.f.next) hy1 d1.r oh.ql rg.len (fun g hg=>by have:=rg.g g hg;omega) oh.bit fun xa h2 QK LP f2=>?_⟩
 have d2:=d1.be f2
 have rF:=kX hS1 f2 fun _ _ _ h=>h
 have Y0:df (h0.next<=·) z:=by
  rcases hz with e |hz
  ·rw[e];exact t.new
  ·exact fun i of n e=>zR d.f.next (hz i of n e)
 have nj:(ay (cp y.1 ao,xa)).all cF=true:=by
  show(true&&(true&&(cF xa&&true)))=true
  rw[QK.gy.one.1];rfl
 refine Q7 (f:=ay) (sz:=6) (bytes:=80) (ty:=46) (z:=[.string ⟨#[]⟩,.string ⟨#[]⟩,.slice none 0 0,.int .i64 0,.int .i64 0,.int .i64 0]) (t:=(cp y.1 ao,xa)) fX (by omega) rfl (by decide) nj rF (fun i of n e=>d.W i (Y0 i of n e)) (by rw[List.length_append,zZ,pd];omega) fun w h3 oP rG k3 n3=>?_
 have f3:Fr h2 h3 (fun i=>∃off n,z=.sl i off n):=⟨n3,fun i hi hs=>k3 i hi (fun off n he=>hs ⟨off,n,he⟩)⟩
 have d3:=d2.dY rF Y0 f3
 rw[List.append_assoc]at oP
 have no1:∀i cs,h.obj i=some (aI cs 2 67)->¬ ∃off n,x6=.sl i off n:=fun i cs hi ⟨off,n,e⟩=>IU t.dQ _ _ _ _ hi (by decide) off n e
 have YW:∀i cs,h2.obj i=some (aI cs 2 67)->¬ ∃off n,z=.sl i off n:=fun i cs hi ⟨off,n,e⟩=>IU rF _ _ _ _ hi (by decide) off n e
 refine hR w xa h3 d3 ⟨oP,fun p hp=>?_,fun i of n e=>zR d2.f.next (rG i of n e)⟩
 rcases List.mem_append.1 hp with hp |hp
 ·exact kX (kX (kX (t.args p hp) f1 no1) f2 fun _ _ _ h=>h) f3 YW
 ·rcases List.mem_append.1 hp with hp |hp
  ·simp only[List.mem_map]at hp
   obtain⟨r,hr,e⟩:=hp
   subst e
   show bC Arg.enc 2 67 h3 aV r.args
   rw[oL r hr];exact .nil
  ·simp only[List.mem_singleton]at hp
   subst hp
   exact kX QK f3 YW
theorem W3{L0:List (Row×AV)}(d:SG W h0 h vc q b x xr yl ao)(t:TL h0 h x6 L0)(Bw:L0.length<=65)(HL:yl.length<=4096)(rg:Q_ b' ao)(ho:∀y∈yl,Ir b' y.1)
  (hN:gQ ao (yl.map (·.1))=none->∀h',Fr h0 h' (fun _=>False)->QR [S [],I 102] h')
  (hY:∀A l x6 h',gQ ao (yl.map (·.1))=some A->SG W h0 h' vc q b x xr yl ao->TL h0 h' x6 l->l.map (·.1)=L0.map (·.1)++A->l.length<=200000->F7.n1 W QR QN QE QP x6 h') :
  F7.cU W QR QN QE QP (.ptr vc 0) x6 xr h:=by
 unfold F7.cU
 refine l8 d.oc rfl fun _=>?_
 simp only[d.x.dQ.len.1,d.x.dQ.len.2,zH]
 unfold F7.cX
 refine cJ (ι:=Nat×AV×List (Row×AV)×List Row) (fun s v h'=>v=[s.2.1,xr,x,I yl.length,I s.1]/\s.1<=yl.length/\SG W h0 h' vc q b x xr yl ao/\TL h0 h' s.2.1 s.2.2.1/\gQ ao ((yl.map (·.1)).take s.1)=some s.2.2.2/\s.2.2.1.map (·.1)=L0.map (·.1)++s.2.2.2/\s.2.2.1.length<=65+33*s.1) (fun s=>yl.length-s.1) (0,x6,L0,[]) ⟨rfl,by omega,d,t,rfl,by simp,by simpa using Bw⟩ ?_
 clear d t
 rintro K ⟨k,x6,l,A⟩ v h' ⟨rfl,hk,d,t,hA,hl,hn⟩ step
 simp only at hk d t hA hl hn
 have w3:IntKind.i64.wrap ((k:Int)+1)=((k+1:Nat):Int):=by rw[aX (by omega) (by omega)];simp
 simp only[F7.cT,zN,zO,F7.cV,bu]
 by_cases aJ:k<yl.length
 ·have dZ:(k:Int)<yl.length:=by omega
  have g0:yl[k]?=some yl[k]:=zJ aJ
  have nk:=List.getElem_mem aJ
  generalize yl[k]=y at *
  have oh:=ho y nk
  have iz:(yl.map (·.1)).take (k+1)=(yl.map (·.1)).take k++[y.1]:=by rw[List.take_add_one,List.getElem?_map,g0];rfl
  have HM:yl.map (·.1)=(yl.map (·.1)).take k++(y.1::(yl.map (·.1)).drop (k+1)):=by
   conv=>lhs;rw[<-List.take_append_drop (k+1) (yl.map (·.1)),iz]
   simp
  simp only[zL dZ,F7.cE,ap,zD,zF,zC,zI]
  unfold F7.cG
  refine nT d.x.dQ fg g0 fun _=>?_
  refine fV (cs:=cK y) (lS (d.x.qs y nk).one.1) rfl rfl rfl (fun id hid=>d.W id (zR d.f.next hid)) fun v11 h2 f2 acJ YV=>?_
  have d2:=d.be f2
  have t2:=t.be f2
  refine W4 d2 YV rg fun aP h3 f3 oP rG=>?_
  have sC:=Fm (o:=y.1) (L:=du ao)
  rw[ny]at sC
  have rB:=rg.len
  unfold F7.br
  simp only[oP.gy.len.1,oP.gy.len.2,zH,gA,gt_iff_lt]
  by_cases c:(32:Int)<((dA y.1 (du ao)).length:Int)
  ·have c':32<(dA y.1 (du ao)).length:=by omega
   have uB:gQ ao (yl.map (·.1))=none:=by
    rw[HM,zx,hA]
    simp only[Option.bind_some,gQ,zX c',Option.map_none]
   simp only[zL c,F7.ba,ap,zD,zF,zC,zI,F7.bc]
   exact hN uB h3 (d2.f.bQ f3)
  ·have c':¬32<(dA y.1 (du ao)).length:=by omega
   simp only[zK c,F7.ba,ap,zE,zD,zC,zH]
   refine S2 (h0:=h2) (fun id hid=>d.W id (zR d2.f.next hid)) f3 oP rG (by omega) fun h4 f4 HV=>?_
   have d4:=d2.be f4
   have jd:((jZ (dA y.1 (du ao))).map (fun r=>(r,aV))).length=(dA y.1 (du ao)).length:=by simp[pd]
   refine W2 d4 (t2.be f4) (f4.bI YV) ((d.x.qs y nk).be (f2.bQ f4)) oh rg HV Ll (by omega) (by omega) fun z xa h5 d5 t5=>?_
   have abF:((jZ (dA y.1 (du ao))).map (fun r=>(r,aV))++[(cp y.1 ao,xa)]).map (·.1)=ul ao y.1:=by simp[ul,List.map_map,Function.comp_def]
   simp only[F7.n2,bg,w3]
   refine step (k+1,z,l++((jZ (dA y.1 (du ao))).map (fun r=>(r,aV))++[(cp y.1 ao,xa)]),A++ul ao y.1) _ _ (by show _<_;omega) ⟨rfl,by show k+1<=_;omega,d5,t5,?_,?_,?_⟩
   ·show gQ ao ((yl.map (·.1)).take (k+1))=_
    rw[iz,zx,hA]
    simp[gQ,c']
   ·show List.map (·.1) (l++_)=_
    rw[List.map_append,hl,abF,List.append_assoc]
   ·show(l++_).length<=65+33*(k+1)
    rw[List.length_append,List.length_append,jd,List.length_singleton];omega
 ·have vq:k=yl.length:=by omega
  have eG:¬((k:Int)<yl.length):=by omega
  rw[vq,List.take_of_length_le (by rw[zZ];omega)]at hA
  simp only[zK eG,F7.cE,ap,zE,zD,zC,zH,zV,zN,zO]
  exact hY A l x6 h' hA d t hl (by omega)
end
end
section
open Go.Ab
attribute [-simp] aH az
section
variable {h:AH} {M:Nat->Prop} {R:AE->AH->Prop} {q b:Int} {x:AV} {yl:List (bq×AV)}
theorem Dq{q:Int}{ao:List (Int×Int)}(h:ao.length<=64):(iO q ao).length<=65:=by
 unfold iO;rw[List.length_append,zZ,ny]
 split<;>simp<;>omega
theorem Jp{q:Int}{ao:List (Int×Int)}:∀r∈iO q ao,r.args=[]:=fun r hr=>by
 unfold iO at hr
 rcases List.mem_append.1 hr with hr |hr
 ·split at hr
  ·simp at hr;subst hr;rfl
  ·cases hr
 ·simp only[List.mem_map]at hr
  obtain⟨y,_,e⟩:=hr
  subst e;rfl
theorem FZ(hx:lZ h x yl)(ht:bS 0 h)(ol:0<h.next)(oK:∀y∈yl,y.1.aD.length<=9223372036854775807)(cA:(eR q b (yl.map (·.1))).2=0->Xj q b (yl.map (·.1)))
  (hR:∀h',Fr h h' (fun _=>False)->R (.ret (.cP (rX (eR q b (yl.map (·.1))).2 q b (yl.map (·.1))))) h'):aB Pg 7 [.agg [I q,I b,x]] h M R:=by
 apply F7.aO
 unfold F7.kJ
 refine dF (cs:=[I q,I b,x]) (by show(true&&(true&&(cF x&&true)))=true;rw[hx.dQ.one.1];rfl) fun vc h1 f1 Ft oc=>?_
 unfold F7.jf
 refine dX oc rfl fun _=>?_
 refine⟨fun _=>False,fun _ h=>h.elim,Gp (hx.be f1) oK fun h2 f2=>?_⟩
 have bY:=f1.bQ f2
 have No:∀{l:List AV}{h':AH}{a b:AV},l=[a,b]->R (.ret (.cP l)) h'->aK Pg [.tmp 2,.tmp 3] R l h':=fun e hr=>by
  subst e;simpa[aK,ly,i_] using hr
 have e1:∀(p:Int×Int)(K:AV->Prop),cf (.cP (uf p)) 1 K=K (I p.2):=fun p K=>by simp[uf]
 have e0:∀(p:Int×Int)(K:Prop),cf (.cP (uf p)) 0 (fun _=>K)=K:=fun p K=>by simp[uf]
 show cf (.cP (uf (eR q b (yl.map (·.1))))) 0 fun _=>cf (.cP (uf (eR q b (yl.map (·.1))))) 1 fun t=>F7.jo _ _ _ _ _ (.ptr vc 0) t h2
 rw[e0,e1]
 generalize eR q b (yl.map (·.1))=e at *
 unfold F7.jo
 simp only[cy]
 by_cases k:e.2=0
 ·have k':(e.2 != 0)=false:=by simp[k]
  have c:=cA k
  simp only[k',F7.jN,ap,zE,zD,zC,zH]
  have hs:rX e.2 q b (yl.map (·.1))=match nS q b (yl.map (·.1)) with
   |none=>[S [],I 102]
   |some r=>rW r:=by unfold rX;rw[zW (by simp[k])];all_goals (cases nS q b (yl.map (·.1))<;>rfl)
  have hc:=c.rows
  have iA:=c.op
  have hlen:=c.len
  rw[zZ]at hlen
  rw[hs]at hR
  unfold nS at hc hR
  have rg:=Ap (ops:=yl.map (·.1)) c.bR
  have E5:=f2.bI oc
  have Y4:=hx.be bY
  have wJ:=bS.be ht bY
  have rest:∀(A:List Row)(x6:AV)(h3:AH),A.length<=1->Fr h h3 (fun _=>False)->h3.obj vc=some (aI [I q,I b,x] 3 24)->lZ h3 x yl->bS 0 h3->bC jE 6 46 h3 x6 A->df (h.next<=·) x6->iO q (b5 (yl.map (·.1)) b.toNat)=A++(du (b5 (yl.map (·.1)) b.toNat)).map Cw->F7.jC (fun id=>M id\/h.next<=id) (aK Pg [.tmp 2,.tmp 3] R) (aK Pg [.tmp 2,.tmp 3] R) (fun _ _ _=>False) (fun v h=>R (.b6 v) h) (.ptr vc 0) x6 h3:=fun A x6 h3 hA f3 PR Y3 ht3 oP rG QK=>by
   unfold F7.jC
   refine dX PR rfl fun _=>?_
   refine⟨fun _=>False,fun _ h=>h.elim,SK Y3 hlen c.bR fun xr h4 hr hri f4=>?_⟩
   have jT:=f3.bQ f4
   generalize b5 (yl.map (·.1)) b.toNat=ao at *
   have d:SG (fun id=>M id\/h.next<=id) h h4 vc q b x xr yl ao:=⟨f4.bI PR,Y3.be f4,hr.gy,fun id hid=>.inr hid,jT,bS.be ht3 f4,ol⟩
   refine S3 rg.len hA d (kX oP f4 fun _ _ _ h=>h) rG fun x6 h5 d5 ZH hI5=>?_
   rw[<-QK]at ZH
   refine W3 (b':=b) (L0:=(iO q ao).map fun r=>(r,aV)) d5 ⟨bC.Ty ZH,fun y hy=>?_,hI5⟩ (by rw[zZ];exact Dq rg.len) hlen rg (fun y hy=>iA _ (List.mem_map_of_mem hy)) (fun hn h6 f6=>?_) fun A l x6 h6 hA d6 t6 hl Lz=>?_
   ·simp only[List.mem_map]at hy
    obtain⟨r,hr,e⟩:=hy
    subst e
    show bC Arg.enc 2 67 h5 aV r.args
    rw[Jp r hr];exact .nil
   ·rw[hn]at hR
    exact No rfl (hR h6 f6)
   ·rw[hA]at hR hc
    have yI:l.map (·.1)=iO q ao++A:=by rw[hl];simp[List.map_map,Function.comp_def]
    have dJ:=hc (iO q ao++A) rfl
    rw[<-yI]at dJ
    unfold F7.n1
    refine⟨fun _=>False,fun _ h=>h.elim,Rw t6.rows d6.t (fun y hy=>dJ.1 _ (List.mem_map_of_mem hy)) (by omega) fun h7 f7=>?_⟩
    have hr:=hR h7 (d6.f.bQ f7)
    simp only[yB]at hr
    rw[yI]
    have key:∃a b,rW (iO q ao++A)=[.sc a,.sc b]:=by
     unfold rW
     split
     ·split<;>exact⟨_,_,rfl⟩
     ·exact⟨_,_,rfl⟩
    obtain⟨a,b,e⟩:=key
    rw[e]at hr ⊢
    simpa using No rfl hr
  unfold F7.iq F7.j_
  refine l8 E5 rfl fun _=>?_
  simp only[gA,gt_iff_lt]
  by_cases hq:0<q
  ·simp only[zL hq,F7.iV,ap,zD,zF,zC,zI]
   refine l8 E5 rfl fun _=>?_
   refine⟨_,Ii (k:=aS) (s:=bs [113]),?_⟩
   refine sN (f:=jE) (sz:=6) (bytes:=80) (ty:=46) (z:=[.string ⟨#[]⟩,.string ⟨#[]⟩,.slice none 0 0,.int .i64 0,.int .i64 0,.int .i64 0]) (t:=TV q) rJ (by omega) rfl Am (by decide) .nil (fun i of n e=>by cases e) (by simp) fun v y h3 oP rG f3=>?_
   have DG:Fr h2 h3 (fun _=>False):=f3.mono fun i ⟨_,_,e⟩=>by cases e
   refine rest [TV q] y h3 (by simp) (bY.bQ DG) (DG.bI E5) (Y4.be DG) (bS.be wJ DG) (by simpa using oP) (fun i of n e=>zR bY.next (rG i of n e)) ?_
   unfold iO;rw[zX hq];rfl
  ·simp only[zK hq,F7.iV,ap,zE,zD,zC,zH]
   refine rest [] aV h2 (by simp) bY E5 Y4 wJ .nil (fun _ _ _ e=>by cases e) ?_
   unfold iO;rw[zW hq];rfl
 ·have k':(e.2 != 0)=true:=by simp[k]
  simp only[k',F7.jN,ap,zD,zF,zC,zI,F7.iN]
  have hs:rX e.2 q b (yl.map (·.1))=[S [],I e.2]:=by unfold rX;rw[zX k]
  rw[hs]at hR
  exact No rfl (hR h2 bY)
end
end
section
open Go.Ab
theorem Jv{q b:Int}{o:bq}(h:iX q b o=0):o.name.size<=10:=by
 unfold iX at h
 by_cases c1:pK b o=true
 ·rw[zX c1]at h;exact absurd h (by decide)
 rw[zW c1]at h
 by_cases c2:kE o=true
 ·rw[zX c2]at h;exact absurd h (by decide)
 rw[zW c2]at h
 by_cases c3:o.kind=1/\dE o.name=0
 ·rw[zX c3]at h;exact absurd h (by decide)
 by_cases k:o.kind=1
 ·have c4:dE o.name≠0:=fun e=>c3 ⟨k,e⟩
  unfold dE at c4
  split at c4
  ·rename_i x hx
   have h1:=List.mem_of_find?_eq_some hx
   have h2:=List.find?_some hx
   simp only[decide_eq_true_eq]at h2
   have key:∀x∈kB,x.1.size<=10:=by decide +kernel
   rw[<-h2];exact key x h1
  ·exact absurd rfl c4
 ·have:o.name=ByteArray.empty:=Classical.byContradiction fun e=>c2 (by unfold kE;simp[k,e])
  rw[this];decide
theorem xk{q b:Int}:∀{l:List bq}{i:Nat}{n:Int},(gI q b l i n).2=0->∀o∈l,o.name.size<=10
 |[],_,_,_,o,ho=>by cases ho
 |y::l,i,n,h,o,ho=>by
  unfold gI at h
  by_cases c1:iX q b y≠0
  ·rw[zX c1]at h;exact absurd h c1
  rw[zW c1]at h
  by_cases c2:36<n+ji y
  ·rw[zX c2]at h;exact absurd (show(116:Int)=0 from h) (by decide)
  rw[zW c2]at h
  rcases List.mem_cons.1 ho with e |ho
  ·subst e;exact Jv (q:=q) (b:=b) (Classical.not_not.1 c1)
  ·exact xk h o ho
structure uW (r:Row):Prop where
 kind:r.kind.size<=40
 name:r.name.size<=40
 args:∀g∈r.args,g.name.size<=40
 len:r.args.length<=200
theorem Gx{l:List Arg}(h:∀g∈l,g.name.size<=40):(l.map fun g=>g.name.size+30).sum<=70*l.length:=by
 induction l with
 |nil=>simp
 |cons g l ih=>
  have h1:=h g (by simp)
  have h2:=ih fun g hg=>h g (by simp[hg])
  simp only[List.map_cons,List.sum_cons,List.length_cons];omega
theorem uW.big{r:Row}(h:uW r):uX r:=by
 have h1:=Gx h.args
 have:=h.kind;have:=h.name;have:=h.len
 exact⟨by omega,by omega,fun g hg=>by have:=h.args g hg;omega,by omega,by omega⟩
theorem LJ{r:Row}(hb:uW r)(hI:Av r)(h0:0<=r.num)(h1:r.num<=9007199254740991):(kh r).length<=15000:=by
 have:=xu hI;have:=Gx hb.args;have:=hb.kind;have:=hb.name;have:=hb.len
 have e1:(ls r.kind).length=r.kind.size:=rfl
 have e2:(ls r.name).length=r.name.size:=rfl
 have hi:=Lib.itoa_length_le r.num (by omega) (by omega)
 have hb:(nf r).length<=100:=by
  unfold nf
  split
  ·omega
  ·split
   ·omega
   ·simp only[List.length_append,List.length_cons];omega
 unfold kh
 simp only[List.length_append]
 have:(if ld r.kind=true then 32::Lib.itoa r.num else[]).length<=22:=by split<;>simp<;>omega
 omega
theorem Ka(n:Nat):∀{d:Nat}{ind:List UInt8}{rows:List Row},rows.length<n->di d rows=true->ind.length<=2*d->(∀r∈rows,uW r)->(fK ind rows).length<=rows.length*16000:=by
 induction n with
 |zero=>intro d ind rows h;omega
 |succ n ih=>
  intro d ind rows hn cA hi hB
  cases rows with
  |nil=>rw[vY];simp
  |cons r rest=>
   obtain⟨hd,lR,mU,rB,eL,Bs,mj⟩:=xM cA
   have qo:=Cn lR
   have hh:=LJ (hB r (by simp)) qo.2.2 qo.1 qo.2.1
   simp only[List.length_cons]at hn
   have aJ:(rest.take r.rows.toNat).length<n:=by rw[yA];omega
   have Dl:(rest.drop r.rows.toNat).length<n:=by rw[List.length_drop];omega
   have h1:=ih aJ eL (ind:=ind++[32,32]) (by simp;omega) (fun z hz=>hB z (by simp[List.mem_of_mem_take hz]))
   have h2:=ih Dl mj hi (fun z hz=>hB z (by simp[List.mem_of_mem_drop hz]))
   have hs:(rest.take r.rows.toNat).length+(rest.drop r.rows.toNat).length=rest.length:=by rw[<-List.length_append,List.take_append_drop]
   rw[tW]
   simp only[List.length_append,List.length_cons]
   have h3:(if fu r.kind=true then[32,123,10]++fK (ind++[32,32]) (rest.take r.rows.toNat)++ind++[125,10] else[59,10]).length<=5+(rest.take r.rows.toNat).length*16000+ind.length:=by
    split
    ·simp only[List.length_append,List.length_cons,List.length_nil];omega
    ·simp;omega
   have h4:(rest.length+1)*16000=(rest.take r.rows.toNat).length*16000+(rest.drop r.rows.toNat).length*16000+16000:=by rw[<-hs];simp only[Nat.add_mul,Nat.one_mul]
   omega
theorem uL{k:Nat}(h:k<=1000):(bs (cB k)).size<=40:=by
 have e:(bs (cB k)).size=(cB k).length:=by simp[bs,ByteArray.size]
 have h1:=Lib.itoa_length_le (k:Int) (by omega) (by omega)
 have h2:Lib.itoa (k:Int)=Lib.decDigits k:=Lib.itoa_nonneg k
 rw[h2]at h1
 rw[e,cB,List.length_cons];omega
theorem qT{ao:List (Int×Int)}{y:Nat×(Int×Int)}(h:y∈du ao):y.1<ao.length/\y.2∈ao:=by
 obtain⟨i,hi⟩:=List.mem_iff_getElem?.1 h
 rw[nz]at hi
 obtain⟨g,hg,rfl⟩:=Option.map_eq_some_iff.1 hi
 exact⟨(zM.1 hg).1,zP hg⟩
theorem Rv{o:bq}{ao:List (Int×Int)}(hn:o.name.size<=10)(hq:o.aD.length<=100)(hr:ao.length<=64):uW (cp o ao):=by
 have oL:∀g∈cS o,g.name.size<=40:=fun g hg=>by
  simp only[cS,List.mem_map]at hg
  obtain⟨_,_,rfl⟩:=hg
  show(1:Nat)<=40;omega
 have oK:(cS o).length<=100:=by simpa[cS] using hq
 unfold cp
 split
 ·refine⟨by show(7:Nat)<=40;omega,by show(0:Nat)<=40;omega,fun g hg=>?_,?_⟩
  ·rcases List.mem_append.1 hg with hg |hg
   ·exact oL g hg
   ·simp only[dL,List.mem_flatMap]at hg
    obtain⟨y,hy,hg⟩:=hg
    have:=qT hy
    split at hg
    ·simp only[List.mem_singleton]at hg;subst hg;exact uL (by omega)
    ·cases hg
  ·have:=s_ (b:=o.bit) (l:=du ao)
   rw[ny]at this
   show(cS o++dL o.bit (du ao)).length<=200
   rw[List.length_append];omega
 ·split
  ·exact⟨by show(5:Nat)<=40;omega,by show(0:Nat)<=40;omega,oL,by show(cS o).length<=200;omega⟩
  ·exact⟨by show(3:Nat)<=40;omega,by show o.name.size<=40;omega,oL,by show(cS o).length<=200;omega⟩
theorem Xp{o:bq}{ao:List (Int×Int)}(hn:o.name.size<=10)(hq:o.aD.length<=100)(hr:ao.length<=64):∀r∈ul ao o,uW r:=by
 intro r wL
 unfold ul at wL
 rcases List.mem_append.1 wL with h |h
 ·simp only[jZ,List.mem_mapIdx]at h
  obtain⟨i,hi,rfl⟩:=h
  have hm:=List.getElem_mem hi
  generalize (dA o (du ao))[i]=r at hm
  simp only[dA,List.mem_map,List.mem_filter]at hm
  obtain⟨y,⟨hy,_⟩,rfl⟩:=hm
  have:=qT hy
  exact⟨by show(2:Nat)<=40;omega,uL (k:=y.1) (by omega),(fun g hg=>by cases hg),by show(0:Nat)<=200;omega⟩
 ·simp only[List.mem_singleton]at h
  subst h;exact Rv hn hq hr
theorem PP{ao:List (Int×Int)}(hr:ao.length<=64):∀{l:List bq}{A:List Row},(∀o∈l,o.name.size<=10/\o.aD.length<=100)->gQ ao l=some A->(∀r∈A,uW r)/\A.length<=33*l.length
 |[],A,_,h=>by simp only[gQ,zQ]at h;subst h;simp
 |o::l,A,ho,h=>by
  simp only[gQ]at h
  by_cases c:32<(dA o (du ao)).length
  ·rw[zX c]at h;cases h
  rw[zW c]at h
  obtain⟨B,hB,rfl⟩:=Option.map_eq_some_iff.1 h
  have ih:=PP hr (fun o dy=>ho o (by simp[dy])) hB
  have h1:=ho o (by simp)
  refine⟨fun r wL=>?_,?_⟩
  ·rcases List.mem_append.1 wL with h |h
   ·exact Xp h1.1 h1.2 hr r h
   ·exact ih.1 r h
  ·have:(ul ao o).length=(dA o (du ao)).length+1:=by simp[ul,pd]
   rw[List.length_append,this,List.length_cons];omega
theorem VB{q:Int}{ao:List (Int×Int)}(hr:ao.length<=64):∀r∈iO q ao,uW r:=by
 intro r h
 unfold iO at h
 rcases List.mem_append.1 h with h |h
 ·split at h
  ·simp only[List.mem_singleton]at h;subst h
   exact⟨by show(6:Nat)<=40;omega,by show(1:Nat)<=40;omega,(fun g hg=>by cases hg),by show(0:Nat)<=200;omega⟩
  ·cases h
 ·simp only[List.mem_map]at h
  obtain⟨y,hy,rfl⟩:=h
  have:=qT hy
  exact⟨by show(4:Nat)<=40;omega,uL (k:=y.1) (by omega),(fun g hg=>by cases hg),by show(0:Nat)<=200;omega⟩
theorem DT{q b:Int}{l:List bq}(h:(eR q b l).2=0):Xj q b l:=by
 obtain⟨hb,hq,hl,ho⟩:=Gn h
 have hn:∀o∈l,o.name.size<=10:=by
  unfold eR at h
  rw[zW (by omega),zW (by omega)]at h
  exact xk h
 have rB:=(Ap (ops:=l) hb).len
 refine⟨hb,hl,ho,fun r hr=>?_⟩
 unfold nS at hr
 obtain⟨A,hA,rfl⟩:=Option.map_eq_some_iff.1 hr
 obtain⟨h1,h2⟩:=PP rB (fun o dy=>⟨hn o dy,(ho o dy).ql⟩) hA
 have hS:∀y∈iO q (b5 l b.toNat)++A,uW y:=fun y hy=>by
  rcases List.mem_append.1 hy with h |h
  ·exact VB rB y h
  ·exact h1 y h
 refine⟨fun y hy=>(hS y hy).big,fun cA=>?_⟩
 have:=Ka _ (Nat.lt_succ_self _) cA (ind:=[]) (by simp) hS
 have h3:=Dq (q:=q) rB
 rw[List.length_append]at this
 omega
end
section
open Go.Ab
attribute [-simp] aH az
end
end Go.Proofs.YtjehibknlmehmaaGreatDoor
