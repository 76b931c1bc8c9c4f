/- FlatReads answers true for every text. No condition. -/
import Derived.Test.YtjehibknlmehmaaGreatRows
import Derived.ProofKit
import Derived.Below
import Derived.ChangeSame
import Derived.ChangeMaps5
import Derived.Test.YtjehibknlmehmaaGreatHb
set_option maxRecDepth 100000
namespace Go.Proofs.YtjehibknlmehmaaGreat
section
open Go.Ab
attribute [-simp] aV aE
section
variable {h:AH} {M:Nat->Prop} {R:AE->AH->Prop}
theorem Hg{x z:AV}{l:List Int}(hx:cK cX 1 3 h x l)(hz:cK cX 1 3 h z l)(hl:l.length<=100000000)(hR:R (.ret (B true)) h):aA Pg 12 [x,z] h M R:=by
 apply tz.aM
 simp only[tz.bH,tz.a_,hx.len.1,hx.len.2,hz.len.1,hz.len.2,zH,cq]
 have e0:((l.length:Int) != (l.length:Int))=false:=by simp
 simp only[e0,tz.bj,al,zE,zD,zC,zH,tz.n9]
 unfold tz.n8
 refine cy (ι:=Nat) (fun i v h'=>v=[x,z,I i]/\i<=l.length/\h'=h) (fun i=>l.length-i) 0 ⟨rfl,by omega,rfl⟩ ?_
 rintro K i v h' ⟨rfl,hi,rfl⟩ step
 simp only[tz.cG,zN,zO,tz.n7,hx.len.1,hx.len.2,zH,bc]
 by_cases aL:i<l.length
 ·have fH:(i:Int)<l.length:=by omega
  have g1:l[i]?=some l[i]:=zJ aL
  have w1:IntKind.i64.wrap ((i:Int)+1)=((i+1:Nat):Int):=by rw[aR (by omega) (by omega)];simp
  generalize l[i]=a at *
  simp only[zL fH,tz.n6,al,zD,zF,zC,zI,tz.n5]
  refine ja hx gJ g1 rfl fun _=>?_
  refine ja hz gJ g1 rfl fun _=>?_
  have e1:(a != a)=false:=by simp
  simp only[cq,e1,tz.n4,al,zE,zD,zC,zH,tz.n2,aZ,w1]
  exact step (i+1) _ _ (by omega) ⟨rfl,by omega,rfl⟩
 ·have eV:¬(i:Int)<l.length:=by omega
  simp only[zK eV,tz.n6,al,zE,zD,zC,zH,zV,tz.n1]
  simpa using hR
theorem abr{t:TypeId}{c:Bool}{x y:Bool}{K:AV->Prop}(hb:sx Pg t=true):ai Pg .neq t c (B x) (B y) K=K (B (!(x==y))):=by simp[ai,hb]
theorem W5:sx Pg 4=true:=by kernel_rfl
theorem Rv{α:Type}{f:α->List AV}{sz:Nat}{ty:TypeId}{x:AV}{l:List α}{i:Nat}{y:α}{K:AV->Nat->Prop}(hl:cK f sz ty h x l)(hf:∀y,(f y).length=sz)(hi:l[i]?=some y)(hK:∀id,x=.sl id 0 l.length->K (.agg (f y)) id) :
  bB (some (sz,none)) x (.sc (.int .i64 i)) fun t=>ao (some true) (some sz) t h K:=by
 have aL:i<l.length:=(zM.1 hi).1
 obtain⟨id,cells,ro,mC,rfl,ho,h1,h2,_⟩:=hl.at_ hf hi
 simp only[kN,kU,ho,jX,zG,zY]
 refine⟨⟨by omega,by omega⟩,h2,?_⟩
 rw[h1];exact hK _ rfl
theorem Ka{q b:Int}{xa xb:AV}{ya yb:List (eY×AV)}(ha:rK h xa ya)(hb:rK h xb yb)(he:ya.map (·.1)=yb.map (·.1))(hn:ya.length<=4096)(hg:∀y∈ya,OG y.1)
  (hR:∀h',Fr h h' (fun _=>False)->R (.ret (B true)) h'):aA Pg 7 [.agg [I q,I b,xa],.agg [I q,I b,xb]] h M R:=by
 apply F7.aM
 have hlen:ya.length=yb.length:=by have:=congrArg List.length he;simpa using this
 have hxa:=ha.gC.one
 have hxb:=hb.gC.one
 unfold F7.dn
 refine dV (cs:=[I q,I b,xa]) (by show(true&&(true&&(cR xa&&true)))=true;rw[hxa.1];rfl) fun va h1 f1 _ oa=>?_
 refine dV (cs:=[I q,I b,xb]) (by show(true&&(true&&(cR xb&&true)))=true;rw[hxb.1];rfl) fun vb h2 f2 Qm ob=>?_
 have HM:=f2.bU oa
 have bX:=f1.cj f2
 have ii:=ha.ba bX
 have F0:=hb.ba bX
 have e1:(q != q)=false:=by simp
 have e2:(b != b)=false:=by simp
 have e3:((ya.length:Int) != (yb.length:Int))=false:=by rw[hlen];simp
 simp only[F7.cU,aj,au,HM,ob,ap,zG,zA,zB,aa,cq,e1,F7.c9,cA,zT,zE,zD,zC,zI,e2,F7.cB,bK,if_false,F7.cC,ii.gC.len.1,ii.gC.len.2,F0.gC.len.1,F0.gC.len.2,zH,e3,F7.cF,F7.cS,al,F7.cw]
 unfold F7.cT
 refine cy (ι:=Nat) (fun i v h'=>v=[.ptr va 0,.ptr vb 0,I i]/\i<=ya.length/\Fr h2 h' (fun _=>False)) (fun i=>ya.length-i) 0 ⟨rfl,by omega,Fr.refl⟩ ?_
 rintro K i v h' ⟨rfl,hi,f3⟩ step
 have XK:=f3.bU HM
 have T9:=f3.bU ob
 have wH:=ii.ba f3
 have H8:=F0.ba f3
 simp only[F7.cG,zN,zO,F7.cP,aj,au,XK,ap,zG,zA,zB,aa,wH.gC.len.1,wH.gC.len.2,zH,bc]
 by_cases aL:i<ya.length
 ·have fH:(i:Int)<ya.length:=by omega
  have UT:i<yb.length:=by omega
  have g1:ya[i]?=some ya[i]:=zJ aL
  have g2:yb[i]?=some yb[i]:=zJ UT
  have j_:ya[i].1=yb[i].1:=by
   have:=congrArg (fun l:List eY=>l[i]?) he
   simp only[List.getElem?_map,g1,g2,yB]at this
   exact Option.some.inj this
  have HV:=wH.qs _ (List.getElem_mem aL)
  have XY:=H8.qs _ (List.getElem_mem UT)
  have DY:=hg _ (List.getElem_mem aL)
  generalize ya[i]=y at *
  generalize yb[i]=z at *
  obtain⟨o,x1⟩:=y
  obtain⟨o',x2⟩:=z
  simp only at j_
  subst j_
  have w1:IntKind.i64.wrap ((i:Int)+1)=((i+1:Nat):Int):=by rw[aR (by omega) (by omega)];simp
  simp only[zL fH,F7.cp,al,zD,zF,zC,zI,F7.ck]
  obtain⟨HR,exb,T6⟩:∃HR,xb=.sl HR 0 yb.length/\h'.obj HR≠none:=by
   obtain⟨id,cells,ro,mC,h1,h2,_⟩:=H8.gC.at_ gX g2
   exact⟨id,h1,by rw[h2];simp⟩
  have follow:∀vx vy h4,Fr h' h4 (fun _=>False)->h4.obj vx=some (aP (ch (o,x1)) 7 36)->h4.obj vy=some (aP (ch (o,x2)) 7 36)->F7.b5 (fun id=>M id\/h.next<=id) (aJ Pg [.tmp 4] R) K (fun(i:Nat) (vs:List AV) (h:AH)=>if i=0 then F7.n1 (fun id=>M id\/h.next<=id) (aJ Pg [.tmp 4] R) (aJ Pg [.tmp 4] R) (fun _ _ _=>False) (fun v h=>R (.bW v) h) h else False) (fun v h=>R (.bW v) h) (.ptr va 0) (.ptr vb 0) (I i) (.ptr vx 0) (.ptr vy 0) h4:=fun vx vy h4 f4 ox oy=>by
   have c1:(o.kind != o.kind)=false:=by simp
   have c2:(!decide (o.name=o.name))=false:=by simp
   have c3:(o.bit != o.bit)=false:=by simp
   have c4:(!(o.cond==o.cond))=false:=by simp
   have c5:(o.cQ != o.cQ)=false:=by simp
   have c6:(o.value != o.value)=false:=by simp
   have Zp:∀{t:TypeId}{c:Bool}{a b:ByteArray}{K:AV->Prop},ai Pg .neq t c (Sb a) (Sb b) K=K (B (!decide (a=b))):=fun{t c a b K}=>rfl
   simp only[F7.b5,aj,au,ox,oy,ap,zG,ch,zA,zB,aa,cq,c1,F7.bR,cA,zT,zE,zD,zC,zI,Zp,decide_true,zS,F7.bV,bK,if_false,F7.bP]
   refine⟨fun _=>False,fun _ h=>h.elim,Hg (HV.ba f4) (XY.ba f4) DY.1 ?_⟩
   simp only[dA,zS,F7.bH,bK,zE,if_false,F7.a_,cA,zT,zD,zC,zI,aj,au,ox,oy,ap,zG,ch,zA,zB,aa,cq,c3,F7.bj,F7.aS,abr W5,c4,F7.n9,F7.n8,xx,c5,F7.n7,F7.n6,c6,F7.n5,F7.n4,al,zH,F7.n2,aZ,w1]
   exact step (i+1) _ h4 (by omega) ⟨rfl,by omega,f3.cj f4⟩
  refine⟨fun i=>if i=6 then vb else HR,fun i _=>by show h'.obj (if i=6 then vb else HR)≠none;split;rw[T9];simp;exact T6,?_⟩
  simp only[aj,au,XK,T9,ap,zG,zA,zB,aa]
  refine jG wH.gC gX g1 fun _=>?_
  refine⟨by simp,?_⟩
  refine Rv H8.gC gX g2 fun id hid=>?_
  have eid:id=HR:=by rw[exb]at hid;cases hid;rfl
  subst eid
  refine⟨by simp,?_⟩
  have abF:=h'.lt _ _ T9
  have abK:id<h'.next:=by
   rcases ho:h'.obj id with _ |p
   ·exact absurd ho T6
   ·exact h'.lt _ _ ho
  have nx:h.next<=h'.next:=zR bX.next f3.next
  have z7:([Value.int .i64 0,.string ⟨#[]⟩,.slice none 0 0,.int .i64 0,.bool false,.int .u64 0,.int .u64 0].map AV.sc).length=7:=rfl
  have first:=AH.b_ h' (aP ([Value.int .i64 0,.string ⟨#[]⟩,.slice none 0 0,.int .i64 0,.bool false,.int .u64 0,.int .u64 0].map AV.sc) 7 36)
  have fa:Fr h' (h'.alloc (aP ([Value.int .i64 0,.string ⟨#[]⟩,.slice none 0 0,.int .i64 0,.bool false,.int .u64 0,.int .u64 0].map AV.sc) 7 36)) (fun _=>False):=Fr.refl.alloc _
  have T5:=kC (y:=(o,x1)) HV.one.1
  have T4:=kC (y:=(o,x2)) XY.one.1
  have IT:∀{hh:AH}{v:Nat}{cs:List AV},hh.obj v=some (aP ([Value.int .i64 0,.string ⟨#[]⟩,.slice none 0 0,.int .i64 0,.bool false,.int .u64 0,.int .u64 0].map AV.sc) 7 36)->cs.length=7->(hh.put v 0 cs).obj v=some (aP cs 7 36):=fun{hh v cs} ho hc=>by
   rw[js ho]
   congr 1
   simp only[aP]
   congr 1
   exact nu (by rw[hc];rfl)
  generalize hh1:h'.alloc (aP ([Value.int .i64 0,.string ⟨#[]⟩,.slice none 0 0,.int .i64 0,.bool false,.int .u64 0,.int .u64 0].map AV.sc) 7 36)=eS at *
  have second:=AH.b_ eS (aP ([Value.int .i64 0,.string ⟨#[]⟩,.slice none 0 0,.int .i64 0,.bool false,.int .u64 0,.int .u64 0].map AV.sc) 7 36)
  have fb:Fr eS (eS.alloc (aP ([Value.int .i64 0,.string ⟨#[]⟩,.slice none 0 0,.int .i64 0,.bool false,.int .u64 0,.int .u64 0].map AV.sc) 7 36)) (fun _=>False):=Fr.refl.alloc _
  have Gv:=fb.bU first
  have n01:h'.next<eS.next:=eS.lt _ _ first
  simp only[aV,hh1]
  generalize eS.alloc (aP ([Value.int .i64 0,.string ⟨#[]⟩,.slice none 0 0,.int .i64 0,.bool false,.int .u64 0,.int .u64 0].map AV.sc) 7 36)=gT at *
  have wU:=fa.cj fb
  refine⟨⟨rfl,rfl,?_⟩,rfl,rfl,?_⟩
  ·simp only[aE,Gv,eL,bz]
   refine⟨⟨⟨.inr nx,fun i _=>by show h'.next≠(if i=6 then vb else id);split<;>omega⟩,T5,rfl,by simp⟩,?_⟩
   have g3:Fr gT (gT.put h'.next 0 (ch (o,x1))) (·=h'.next):=Fr.refl.put (.inl rfl)
   have p3:=IT Gv (gX (o,x1))
   have Gw:Fr h' (gT.put h'.next 0 (ch (o,x1))) (fun _=>False):=wU.put (.inr (zU _))
   generalize gT.put h'.next 0 (ch (o,x1))=rT at *
   have s3:=g3.obj second (by omega)
   simp only[s3,bz]
   refine⟨⟨.inr (by omega),T4,rfl,by simp⟩,?_⟩
   have g4:Fr rT (rT.put eS.next 0 (ch (o,x2))) (·=eS.next):=Fr.refl.put (.inl rfl)
   exact follow _ _ _ (Gw.put (.inr (by omega))) (g4.obj p3 (by omega)) (IT s3 (gX (o,x2)))
  ·simp only[aE,second,eL,bz]
   refine⟨⟨⟨.inr (by omega),fun i _=>by show eS.next≠(if i=6 then vb else id);split<;>omega⟩,T5,rfl,by simp⟩,?_⟩
   have g3:Fr gT (gT.put eS.next 0 (ch (o,x1))) (·=eS.next):=Fr.refl.put (.inl rfl)
   have p3:=IT second (gX (o,x1))
   have Gw:Fr h' (gT.put eS.next 0 (ch (o,x1))) (fun _=>False):=wU.put (.inr (by omega))
   generalize gT.put eS.next 0 (ch (o,x1))=rT at *
   have s3:=g3.obj Gv (by omega)
   simp only[s3,bz]
   refine⟨⟨.inr nx,T4,rfl,by simp⟩,?_⟩
   have g4:Fr rT (rT.put h'.next 0 (ch (o,x2))) (·=h'.next):=Fr.refl.put (.inl rfl)
   exact follow _ _ _ (Gw.put (.inr (zU _))) (g4.obj p3 (by omega)) (IT s3 (gX (o,x2)))
 ·have eV:¬(i:Int)<ya.length:=by omega
  simp only[zK eV,F7.cp,al,zE,zD,zC,zH,zV,F7.n1]
  simpa using hR h' (bX.cj f3)
end
end
section
open Go.Ab
attribute [-simp] aV aE
abbrev tq:ByteArray:=⟨#[113]⟩
abbrev t1:ByteArray:=⟨#[113,117,98,105,116,115,32,113,32,49,59,32,98,105,116,115,32,99,32,50,59,32,98,105,116,115,32,100,32,49,59,32,109,101,97,115,117,114,101,32,113,91,48,93,32,100,91,48,93,59,32,105,102,32,100,32,49,32,123,32,120,32,113,91,48,93,59,32,125]⟩
abbrev t2:ByteArray:=⟨#[103,97,116,101,32,103,32,120,32,123,32,103,32,120,59,32,125]⟩
abbrev t3:ByteArray:=⟨#[113,117,98,105,116,115,32,113,32,49,59,32,114,101,112,101,97,116,32,53,48,48,48,32,123,32,120,32,113,91,48,93,59,32,125]⟩
abbrev jk:List Row:=[⟨bF,⟨#[113]⟩,[],1,0,0⟩,⟨cE,⟨#[99]⟩,[],2,0,12⟩,⟨cE,⟨#[100]⟩,[],1,0,22⟩,⟨bT,ByteArray.empty,[⟨⟨#[113]⟩,0⟩,⟨⟨#[100]⟩,0⟩],0,0,32⟩,⟨eZ,⟨#[100]⟩,[],1,1,51⟩,⟨cn,⟨#[120]⟩,[⟨⟨#[113]⟩,0⟩],0,0,60⟩]
abbrev eP:List Row:=[⟨bD,⟨#[103]⟩,[⟨⟨#[120]⟩,-1⟩],0,1,0⟩,⟨cn,⟨#[103]⟩,[⟨⟨#[120]⟩,-1⟩],0,0,11⟩]
abbrev mE:List Row:=[⟨bF,⟨#[113]⟩,[],1,0,0⟩,⟨aT,ByteArray.empty,[],5000,1,12⟩,⟨cn,⟨#[120]⟩,[⟨⟨#[113]⟩,0⟩],0,0,26⟩]
theorem TK:jl t1=.ok jk:=by
 rw[<-xw]
 kernel_rfl
theorem TJ:jl t2=.ok eP:=by
 rw[<-xw]
 kernel_rfl
theorem TI:jl t3=.ok mE:=by
 rw[<-xw]
 kernel_rfl
theorem E7{f:OL->Except Int OL}{o:eY}{pl:Int}(hf:∀l,f l=j8 l o pl):∀(n:Nat)(l:OL),l.length<=4096->4096<l.length+n->gv f n l=.error pl
 |0,l,h1,h2=>by omega
 |n+1,l,h1,h2=>by
  simp only[gv,hf,j8]
  by_cases k:l.length=4096
  ·rw[zX k]
  ·rw[zW k]
   simp only[List.length_append,List.length_singleton]
   rw[zW (by omega)]
   exact E7 hf n _ (by simp;omega) (by simp;omega)
end
section
open Go.Ab
def yk:Nat->List bS->List Row->Int->Int
 |0,_,_,n=>n
 |_+1,_,[],n=>n
 |m+1,ds,r::rest,n=>yk m ds (rest.drop r.rows.toNat) (min (n+iY ds r (yk m ds (rest.take r.rows.toNat) 0)) 4097)
theorem yj:∀(m:Nat)(ds:List bS)(rows:List Row)(n:Int),rows.length<=m->yk m ds rows n=countP ds rows n
 |0,ds,rows,n,h=>by
  have:rows=[]:=List.length_eq_zero_iff.1 (by omega)
  subst this
  rw[countP_nil];rfl
 |m+1,ds,[],n,h=>by rw[countP_nil];rfl
 |m+1,ds,r::rest,n,h=>by
  rw[List.length_cons]at h
  rw[countP_cons]
  simp only[yk]
  rw[yj m _ _ _ (by simp only[yA,List.length_drop];omega),yj m _ _ _ (by simp only[yA,List.length_drop];omega)]
def Es:Nat->Nat->Option Nat->Nat->List Row->Bk->Except (Int×Int) Bk
 |0,_,_,_,_,bk=>.ok bk
 |_+1,_,_,_,[],bk=>.ok bk
 |m+1,deep,own,i,r::rest,bk=>
  if lj r rest.length deep own.isSome≠0 then .error (r.place,lj r rest.length deep own.isSome)
  else match fO bk own i r with
   |.error e=>.error (r.place,e)
   |.ok lS=>match Es m (deep+1) (if r.kind=bD then some bk.ds.length else own) (i+1) (rest.take r.rows.toNat) lS with
    |.error e=>.error e
    |.ok fc=>Es m deep own (i+1+r.rows.toNat) (rest.drop r.rows.toNat) (if r.kind=bD then{ fc with ds:=j7 fc.ds bk.ds.length (yk m fc.ds (rest.take r.rows.toNat) 0) } else fc)
theorem sJ:∀(m:Nat)(deep:Nat)(own:Option Nat)(i:Nat)(rows:List Row)(bk:Bk),rows.length<=m->Es m deep own i rows bk=eM deep own i rows bk
 |0,deep,own,i,rows,bk,h=>by
  have:rows=[]:=List.length_eq_zero_iff.1 (by omega)
  subst this
  rw[jI];rfl
 |m+1,deep,own,i,[],bk,h=>by rw[jI];rfl
 |m+1,deep,own,i,r::rest,bk,h=>by
  rw[List.length_cons]at h
  rw[kc]
  simp only[Es]
  split
  ·rfl
  ·cases fO bk own i r with
   |error e=>rfl
   |ok lS=>
    simp only
    rw[sJ m _ _ _ _ _ (by rw[yA];omega)]
    cases eM (deep+1) (if r.kind=bD then some bk.ds.length else own) (i+1) (rest.take r.rows.toNat) lS with
    |error e=>rfl
    |ok fc=>
     simp only
     rw[sJ m _ _ _ _ _ (by rw[List.length_drop];omega),yj m _ _ _ (by rw[yA];omega)]
def s_ (bk : Bk) (L : List Row) : Nat → hN → List Row → OL → Except Int OL
  | 0, _, _, l => .ok l
  | _ + 1, _, [], l => .ok l
  | m + 1, w, r :: rest, l => ll (s_ bk L m w (rest.drop r.rows.toNat))
    (if r.kind = aT then gv (s_ bk L m w (rest.take r.rows.toNat)) r.num.toNat l
     else if r.kind = eZ then (match eF bk.bs r.name with
      | none => .ok l
      | some g => match oe w g r.num with
        | none => .ok l
        | some w' => s_ bk L m w' (rest.take r.rows.toNat) l)
     else vD bk L w r [] l)
theorem Cs{bk:Bk}{L:List Row}:∀(m:Nat)(w:hN)(rows:List Row)(l:OL),rows.length<=m->s_ bk L m w rows l=iA bk L w rows l
 |0,w,rows,l,h=>by
  have:rows=[]:=List.length_eq_zero_iff.1 (by omega)
  subst this
  rw[vg];rfl
 |m+1,w,[],l,h=>by rw[vg];rfl
 |m+1,w,r::rest,l,h=>by
  rw[List.length_cons]at h
  rw[vT]
  simp only[s_]
  have e1:s_ bk L m w (rest.drop r.rows.toNat)=iA bk L w (rest.drop r.rows.toNat):=funext fun l=>Cs m w _ l (by rw[List.length_drop];omega)
  have e2:∀w',s_ bk L m w' (rest.take r.rows.toNat)=iA bk L w' (rest.take r.rows.toNat):=fun w'=>funext fun l=>Cs m w' _ l (by rw[yA];omega)
  rw[e1,e2]
  congr 1
  unfold vD
  by_cases k1:r.kind=aT
  ·rw[zX k1,zX k1]
  ·by_cases k2:r.kind=eZ
   ·simp only[zW k1,zX k2]
    cases eF bk.bs r.name with
    |none=>rfl
    |some g=>
     simp only
     cases oe w g r.num with
     |none=>rfl
     |some w'=>simp only;rw[e2]
   ·simp only[zW k1,zW k2]
theorem Wx:∃bk,eM 0 none 0 jk kL=.ok bk/\aK bk.qs=1/\aK bk.bs=3/\iA bk jk ⟨false,0,0⟩ jk []=.ok [(⟨2,ByteArray.empty,[0],2,false,0,0⟩,32),(⟨1,⟨#[120]⟩,[0],0,true,4,4⟩,60)]:=by
 refine⟨⟨[⟨⟨#[113]⟩,0,1⟩],[⟨⟨#[99]⟩,0,2⟩,⟨⟨#[100]⟩,2,1⟩],[]⟩,?_,by decide,by decide,?_⟩
 ·rw[<-sJ 6 _ _ _ _ _ (by decide)]
  kernel_rfl
 ·rw[<-Cs 6 _ _ _ (by decide)]
  kernel_rfl
theorem WZ:cY jk=⟨1,3,[⟨2,ByteArray.empty,[0],2,false,0,0⟩,⟨1,⟨#[120]⟩,[0],0,true,4,4⟩],0,0⟩:=by
 obtain⟨bk,h1,h2,h3,h4⟩:=Wx
 unfold cY
 rw[show(⟨[],[],[]⟩:Bk)=kL from rfl,h1]
 simp only[h4,h2,h3,List.map_cons,List.map_nil]
 have hc:il 1 3 [⟨2,ByteArray.empty,[0],2,false,0,0⟩,⟨1,⟨#[120]⟩,[0],0,true,4,4⟩]=(0,0):=by kernel_rfl
 rw[hc]
 rfl
theorem WY:cY eP=⟨0,0,[],11,114⟩:=by
 have h1:eM 0 none 0 eP kL=.error (11,114):=by
  rw[<-sJ 6 _ _ _ _ _ (by decide)]
  kernel_rfl
 unfold cY
 rw[show(⟨[],[],[]⟩:Bk)=kL from rfl,h1]
theorem WX:cY mE=⟨0,0,[],26,115⟩:=by
 have h1:eM 0 none 0 mE kL=.ok ⟨[⟨⟨#[113]⟩,0,1⟩],[],[]⟩:=by
  rw[<-sJ 6 _ _ _ _ _ (by decide)]
  kernel_rfl
 have h2:iA ⟨[⟨⟨#[113]⟩,0,1⟩],[],[]⟩ mE ⟨false,0,0⟩ mE []=.error 26:=by
  have hf:∀l,s_ ⟨[⟨⟨#[113]⟩,0,1⟩],[],[]⟩ mE 1 ⟨false,0,0⟩ [⟨cn,⟨#[120]⟩,[⟨⟨#[113]⟩,0⟩],0,0,26⟩] l=j8 l ⟨1,⟨#[120]⟩,[0],0,false,0,0⟩ 26:=fun l=>by
   have e:s_ ⟨[⟨⟨#[113]⟩,0,1⟩],[],[]⟩ mE 1 ⟨false,0,0⟩ [⟨cn,⟨#[120]⟩,[⟨⟨#[113]⟩,0⟩],0,0,26⟩] l=ll (fun l=>.ok l) (j8 l ⟨1,⟨#[120]⟩,[0],0,false,0,0⟩ 26):=by kernel_rfl
   rw[e]
   cases j8 l ⟨1,⟨#[120]⟩,[0],0,false,0,0⟩ 26<;>rfl
  have hr:=E7 hf 5000 [] (by decide) (by decide)
  rw[<-Cs 3 _ _ _ (by decide)]
  have e3:s_ ⟨[⟨⟨#[113]⟩,0,1⟩],[],[]⟩ mE 3 ⟨false,0,0⟩ mE []=ll (s_ ⟨[⟨⟨#[113]⟩,0,1⟩],[],[]⟩ mE 1 ⟨false,0,0⟩ []) (gv (s_ ⟨[⟨⟨#[113]⟩,0,1⟩],[],[]⟩ mE 1 ⟨false,0,0⟩ [⟨cn,⟨#[120]⟩,[⟨⟨#[113]⟩,0⟩],0,0,26⟩]) 5000 []):=by
   have h1:s_ ⟨[⟨⟨#[113]⟩,0,1⟩],[],[]⟩ mE 3 ⟨false,0,0⟩ mE []=s_ ⟨[⟨⟨#[113]⟩,0,1⟩],[],[]⟩ mE 2 ⟨false,0,0⟩ [⟨aT,ByteArray.empty,[],5000,1,12⟩,⟨cn,⟨#[120]⟩,[⟨⟨#[113]⟩,0⟩],0,0,26⟩] []:=rfl
   rw[h1]
   conv=>lhs;unfold s_
   rw[zX rfl]
   rfl
  rw[e3,hr]
  rfl
 unfold cY
 rw[show(⟨[],[],[]⟩:Bk)=kL from rfl,h1]
 simp only[h2]
end
section
open Go.Ab
attribute [-simp] aV aE
theorem CE{h:AH}{R:AE->AH->Prop}{v:Nat}{q b:Int}{xo:AV}{a e:Int}(ho:h.obj v=some (aP [I q,I b,xo] 3 25))(hR:R (.ret (.dD [.agg [I q,I b,xo],I a,I e])) h):aJ Pg [.cell 2 25,.tmp 3,.tmp 4] R [.ptr v 0,I a,I e] h:=Dl ho hR
def Small(rows:List Row):Prop:=rows.length<=100000000/\∀r∈rows,r.args.length<=100000000/\r.num<=9223372036854775807
theorem fJ.rt{h:AH}{x:AV}{rows:List Row}(a:fJ h x rows)(s:Small rows):∃rs,RT h x rs/\rs.map (·.1)=rows/\∀y∈rs,y.1.num<=9223372036854775807:=by
 obtain⟨l,h1,h2,h3⟩:=a
 have hm:∀y∈l,y.1∈rows:=fun y hy=>by rw[<-h2];exact List.mem_map_of_mem hy
 refine⟨l,⟨h1.dr,fun y hy=>⟨(h3 y hy).dr,(s.2 _ (hm y hy)).1⟩,?_⟩,h2,fun y hy=>(s.2 _ (hm y hy)).2⟩
 have:=congrArg List.length h2
 have:=s.1
 simp only[zZ]at *;omega
section
variable {h:AH} {M:Nat->Prop} {R:AE->AH->Prop}
theorem yI{s:ByteArray}{rows:List Row}(hp:jl s=.ok rows)(hs:Small rows)(hR:∀xo yl h',uh h' (cY rows) xo yl->Fr h h' (fun _=>False)->R (.ret (.dD [.agg [I (cY rows).q,I (cY rows).b,xo],I (cY rows).at_,I (cY rows).err])) h'):aA Pg 6 [Sb s] h M R:=by
 apply F6.aM
 unfold F6.n6
 have hv:=AH.b_ h (aP ([Value.int .i64 0,.int .i64 0,.slice none 0 0].map AV.sc) 3 25)
 rw[aV]
 refine⟨rfl,?_⟩
 have f1:Fr h (h.alloc (aP ([Value.int .i64 0,.int .i64 0,.slice none 0 0].map AV.sc) 3 25)) (fun _=>False):=Fr.refl.alloc _
 generalize h.alloc (aP ([Value.int .i64 0,.int .i64 0,.slice none 0 0].map AV.sc) 3 25)=h1 at *
 obtain⟨v,nO⟩:∃v,v=h.next:=⟨_,rfl⟩
 rw[<-nO]at hv ⊢
 have ov:h1.obj v=some (aP [I 0,I 0,aQ] 3 25):=hv
 have pq:∀{h':AH}{x y z:AV},h'.obj v=some (aP [I 0,I 0,aQ] 3 25)->(h'.put v 0 [x,y,z]).obj v=some (aP [x,y,z] 3 25):=fun ho=>by rw[dz ho];rfl
 have pN:∀{h':AH}{cs:List AV},Fr h h' (fun _=>False)->Fr h (h'.put v 0 cs) fun _=>False:=fun hf=>hf.put (.inr (by omega))
 unfold F6.n5
 refine⟨fun _=>False,fun _ h=>h.elim,Fh ?_⟩
 unfold rr
 rw[hp]
 ·intro x h2 hx _ f2
  have bX:=f1.cj f2
  have nJ:=f2.bU ov
  obtain⟨rs,rt,gS,sP⟩:=hx.rt hs
  have x_:((0:Int) != 0)=false:=rfl
  simp only[dE,zA,zB,aa,F6.n4,cq,x_,F6.n3,al,zE,zD,zC,zH,F6.n1]
  refine⟨fun _=>False,fun _ h=>h.elim,Se rt sP fun xo yl h3 hf f3=>?_⟩
  rw[gS]at hf ⊢
  have lO:=f3.bU nJ
  have FL:=hf.o.gC.one
  simp only[dE,zA,zB,aa,aE,lO,eL,bz]
  refine⟨⟨.inr (by omega),by show(true&&(true&&(cR xo&&true)))=true;rw[FL.1];rfl,rfl,by simp⟩,?_⟩
  have fv:Fr h3 (h3.put v 0 [I (cY rows).q,I (cY rows).b,xo]) (·=v):=Fr.refl.put (.inl rfl)
  refine CE (pq lO) (hR xo yl _ ⟨⟨hf.o.gC.fr fv fun id o ho ht e=>?_,fun y hy=>(hf.o.qs y hy).fr fv fun id o ho ht e=>?_⟩,hf.e,hf.g,hf.n⟩ (pN (bX.cj f3)))
  ·subst e;rw[lO]at ho;cases ho;exact absurd (ht rfl) (show(25:Nat)≠36 by decide)
  ·subst e;rw[lO]at ho;cases ho;exact absurd (ht rfl) (show(25:Nat)≠3 by decide)
theorem Tt:Small jk:=⟨by decide,by decide⟩
theorem Ts:Small eP:=⟨by decide,by decide⟩
theorem Tq:Small mE:=⟨by decide,by decide⟩
theorem OU(hR:∀h',Fr h h' (fun _=>False)->R (.ret (B true)) h'):aA Pg 4 [] h M R:=by
 apply F4.aM
 unfold F4.eC F4.dZ
 refine⟨fun _=>False,fun _ h=>h.elim,yI TK Tt fun iG EE h1 Ci f1=>?_⟩
 rw[WZ]at Ci ⊢
 have NB:=Ci.o.gC.one
 simp only[dE,zA,zB,aa]
 refine jt (cs:=[I 1,I 3,iG]) (by show(true&&(true&&(cR iG&&true)))=true;rw[NB.1];rfl) rfl rfl rfl (fun id hid=>.inr (zR f1.next hid)) fun v1 h2 f2 _ o1=>?_
 have bX:=f1.cj f2
 unfold F4.dS
 refine⟨fun _=>False,fun _ h=>h.elim,yI TJ Ts fun lm Hp h3 D9 f3=>?_⟩
 rw[WY]at D9 ⊢
 have NA:=D9.o.gC.one
 have eO:=bX.cj f3
 simp only[dE,zA,zB,aa]
 refine jt (cs:=[I 0,I 0,lm]) (by show(true&&(true&&(cR lm&&true)))=true;rw[NA.1];rfl) rfl rfl rfl (fun id hid=>.inr (zR eO.next hid)) fun v2 h4 f4 _ o2=>?_
 have iP:=eO.cj f4
 unfold F4.dn
 refine⟨fun _=>False,fun _ h=>h.elim,yI TI Tq fun JR PI h5 Ym f5=>?_⟩
 rw[WX]at Ym ⊢
 have ZF:=Ym.o.gC.one
 have qg:=iP.cj f5
 simp only[dE,zA,zB,aa]
 refine jt (cs:=[I 0,I 0,JR]) (by show(true&&(true&&(cR JR&&true)))=true;rw[ZF.1];rfl) rfl rfl rfl (fun id hid=>.inr (zR qg.next hid)) fun v3 h6 f6 _ o3=>?_
 have sW:=qg.cj f6
 have f26:=((f3.cj f4).cj f5).cj f6
 have P1:=f26.bU o1
 have fo:=Ci.o.ba (f2.cj f26)
 obtain⟨ya,yb,hy⟩:∃ya yb,EE=[ya,yb]:=by
  have:=congrArg List.length Ci.e
  simp only[zZ,List.length_cons,List.length_nil]at this
  match EE,this with
  |[a,b],_=>exact⟨a,b,rfl⟩
 subst hy
 have he:=Ci.e
 simp only[List.map_cons,List.map_nil,List.cons.injEq,zI]at he
 obtain⟨hea,U4⟩:=he
 have ha:fo.gC=fo.gC:=rfl
 have fin:=hR h6 sW
 have ga:([ya,yb]:List (eY×AV))[0]?=some ya:=rfl
 have gb:([ya,yb]:List (eY×AV))[1]?=some yb:=rfl
 simp only[F4.cU,F4.c9,cA,zT,zE,zD,zC,zI,cq,show((0:Int) != 0)=false from rfl,F4.cB,bK,if_false,F4.cC,F4.cF,F4.cS,show((114:Int) != 114)=false from rfl,F4.cL,F4.cw,show((11:Int) != 11)=false from rfl,F4.cT,F4.cP,show((115:Int) != 115)=false from rfl,F4.cp,F4.ck,show((26:Int) != 26)=false from rfl,F4.b5,F4.bR,al,zH,F4.bP,aj,au,P1,ap,zG,zA,zB,aa,eG,show((1:Int)==1)=true from rfl,F4.bH,zS,zF,show((3:Int)==3)=true from rfl,F4.a_,zV,F4.bj,fo.gC.len.1,fo.gC.len.2,List.length_cons,List.length_nil,show(((0+1+1:Nat):Int)==2)=true from rfl,F4.aS,F4.n9]
 refine dJ (i:=0) (k:=3) fo.gC gX ga (by omega) rfl fun _=>?_
 rw[hea]
 simp only[eG,show((2:Int)==2)=true from rfl,F4.n8,bK,zV,F4.n7,cA,zS,zD,zF,zC,zI,aj,au,P1,ap,zG,zA,zB,aa]
 refine dJ (i:=1) (k:=4) fo.gC gX gb (by omega) rfl fun _=>?_
 rw[U4]
 have GD:∀{t:TypeId}{c:Bool}{x y:Int}{K:AV->Prop},ai Pg .eql t c (U x) (U y) K=K (B (x==y)):=fun{t c x y K}=>by simp[ai]
 simp only[F4.n6,bK,zV,F4.n5,cA,zS,zD,zF,zC,zI,aj,au,P1,ap,zG,zA,zB,aa]
 refine dJ (i:=1) (k:=5) fo.gC gX gb (by omega) rfl fun _=>?_
 rw[U4]
 simp only[GD,show((4:Int)==4)=true from rfl,F4.n4,bK,zV,F4.n3,cA,zS,zD,zF,zC,zI,aj,au,P1,ap,zG,zA,zB,aa]
 refine dJ (i:=1) (k:=6) fo.gC gX gb (by omega) rfl fun _=>?_
 rw[U4]
 simp only[GD,show((4:Int)==4)=true from rfl,F4.n2,bK,zV,F4.n1]
 simpa using fin
end
end
section
open Go.Ab
attribute [-simp] aV aE
def hF(s:ByteArray):JH:=match jl s with |.ok rows=>cY rows |.error e=>⟨0,0,[],e.1,e.2⟩
theorem E3{s:ByteArray}{rows:List Row}(h:jl s=.ok rows):Small rows:=by
 obtain⟨a,b⟩:=Hj h
 exact⟨by omega,fun r hr=>by have:=b r hr;omega⟩
section
variable {h:AH} {M:Nat->Prop} {R:AE->AH->Prop}
theorem M_{s:ByteArray}(hR:∀xo yl h',uh h' (hF s) xo yl->Fr h h' (fun _=>False)->R (.ret (.dD [.agg [I (hF s).q,I (hF s).b,xo],I (hF s).at_,I (hF s).err])) h'):aA Pg 6 [Sb s] h M R:=by
 cases hp:jl s with
 |ok rows=>
  have e:hF s=cY rows:=by unfold hF;rw[hp]
  rw[e]at hR
  exact yI hp (E3 hp) hR
 |error e=>
  have er:hF s=⟨0,0,[],e.1,e.2⟩:=by unfold hF;rw[hp]
  rw[er]at hR
  apply F6.aM
  unfold F6.n6
  have hv:=AH.b_ h (aP ([Value.int .i64 0,.int .i64 0,.slice none 0 0].map AV.sc) 3 25)
  rw[aV]
  refine⟨rfl,?_⟩
  have f1:Fr h (h.alloc (aP ([Value.int .i64 0,.int .i64 0,.slice none 0 0].map AV.sc) 3 25)) (fun _=>False):=Fr.refl.alloc _
  generalize h.alloc (aP ([Value.int .i64 0,.int .i64 0,.slice none 0 0].map AV.sc) 3 25)=h1 at *
  obtain⟨v,nO⟩:∃v,v=h.next:=⟨_,rfl⟩
  rw[<-nO]at hv ⊢
  have ov:h1.obj v=some (aP [I 0,I 0,aQ] 3 25):=hv
  unfold F6.n5
  refine⟨fun _=>False,fun _ h=>h.elim,Fh ?_⟩
  unfold rr
  rw[hp]
  intro h2 f2
  have bX:=f1.cj f2
  have nJ:=f2.bU ov
  have x_:(e.2 != 0)=true:=by simpa using(Bt hp).1
  simp only[dE,zA,zB,aa,F6.n4,cq,x_,F6.n3,al,zD,zF,zC,zI,F6.n2]
  refine⟨_,sk,?_⟩
  simp only[aE,nJ,eL,bz]
  refine⟨⟨.inr (by omega),rfl,rfl,by simp⟩,?_⟩
  refine CE (by rw[dz nJ];rfl) (hR aQ [] _ ⟨⟨cl.dr .nil,fun _ h=>by cases h⟩,rfl,(fun _ h=>by cases h),by simp⟩ (bX.put (.inr (by omega))))
theorem Na{s:ByteArray}{rows:List Row}(hp:jl s=.ok rows)(hs:Small rows)(hR:∀xo yl h',uh h' (cY rows) xo yl->Fr h h' (fun _=>False)->R (.ret (.dD [.agg [I (cY rows).q,I (cY rows).b,xo],I (cY rows).at_,I (cY rows).err])) h'):aA Pg 5 [Sb s] h M R:=by
 apply F5.aM
 unfold F5.n6
 have hv:=AH.b_ h (aP ([Value.int .i64 0,.int .i64 0,.slice none 0 0].map AV.sc) 3 25)
 rw[aV]
 refine⟨rfl,?_⟩
 have f1:Fr h (h.alloc (aP ([Value.int .i64 0,.int .i64 0,.slice none 0 0].map AV.sc) 3 25)) (fun _=>False):=Fr.refl.alloc _
 generalize h.alloc (aP ([Value.int .i64 0,.int .i64 0,.slice none 0 0].map AV.sc) 3 25)=h1 at *
 obtain⟨v,nO⟩:∃v,v=h.next:=⟨_,rfl⟩
 rw[<-nO]at hv ⊢
 have ov:h1.obj v=some (aP [I 0,I 0,aQ] 3 25):=hv
 have pq:∀{h':AH}{x y z:AV},h'.obj v=some (aP [I 0,I 0,aQ] 3 25)->(h'.put v 0 [x,y,z]).obj v=some (aP [x,y,z] 3 25):=fun ho=>by rw[dz ho];rfl
 have pN:∀{h':AH}{cs:List AV},Fr h h' (fun _=>False)->Fr h (h'.put v 0 cs) fun _=>False:=fun hf=>hf.put (.inr (by omega))
 unfold F5.n5
 refine⟨fun _=>False,fun _ h=>h.elim,HH ?_⟩
 unfold rr
 rw[hp]
 ·intro x h2 hx _ f2
  have bX:=f1.cj f2
  have nJ:=f2.bU ov
  obtain⟨rs,rt,gS,sP⟩:=hx.rt hs
  have x_:((0:Int) != 0)=false:=rfl
  simp only[dE,zA,zB,aa,F5.n4,cq,x_,F5.n3,al,zE,zD,zC,zH,F5.n1]
  refine⟨fun _=>False,fun _ h=>h.elim,On rt sP fun xo yl h3 hf f3=>?_⟩
  rw[gS]at hf ⊢
  have lO:=f3.bU nJ
  have FL:=hf.o.gC.one
  simp only[dE,zA,zB,aa,aE,lO,eL,bz]
  refine⟨⟨.inr (by omega),by show(true&&(true&&(cR xo&&true)))=true;rw[FL.1];rfl,rfl,by simp⟩,?_⟩
  have fv:Fr h3 (h3.put v 0 [I (cY rows).q,I (cY rows).b,xo]) (·=v):=Fr.refl.put (.inl rfl)
  refine CE (pq lO) (hR xo yl _ ⟨⟨hf.o.gC.fr fv fun id o ho ht e=>?_,fun y hy=>(hf.o.qs y hy).fr fv fun id o ho ht e=>?_⟩,hf.e,hf.g,hf.n⟩ (pN (bX.cj f3)))
  ·subst e;rw[lO]at ho;cases ho;exact absurd (ht rfl) (show(25:Nat)≠36 by decide)
  ·subst e;rw[lO]at ho;cases ho;exact absurd (ht rfl) (show(25:Nat)≠3 by decide)
theorem Kf{s:ByteArray}(hR:∀xo yl h',uh h' (hF s) xo yl->Fr h h' (fun _=>False)->R (.ret (.dD [.agg [I (hF s).q,I (hF s).b,xo],I (hF s).at_,I (hF s).err])) h'):aA Pg 5 [Sb s] h M R:=by
 cases hp:jl s with
 |ok rows=>
  have e:hF s=cY rows:=by unfold hF;rw[hp]
  rw[e]at hR
  exact Na hp (E3 hp) hR
 |error e=>
  have er:hF s=⟨0,0,[],e.1,e.2⟩:=by unfold hF;rw[hp]
  rw[er]at hR
  apply F5.aM
  unfold F5.n6
  have hv:=AH.b_ h (aP ([Value.int .i64 0,.int .i64 0,.slice none 0 0].map AV.sc) 3 25)
  rw[aV]
  refine⟨rfl,?_⟩
  have f1:Fr h (h.alloc (aP ([Value.int .i64 0,.int .i64 0,.slice none 0 0].map AV.sc) 3 25)) (fun _=>False):=Fr.refl.alloc _
  generalize h.alloc (aP ([Value.int .i64 0,.int .i64 0,.slice none 0 0].map AV.sc) 3 25)=h1 at *
  obtain⟨v,nO⟩:∃v,v=h.next:=⟨_,rfl⟩
  rw[<-nO]at hv ⊢
  have ov:h1.obj v=some (aP [I 0,I 0,aQ] 3 25):=hv
  unfold F5.n5
  refine⟨fun _=>False,fun _ h=>h.elim,HH ?_⟩
  unfold rr
  rw[hp]
  intro h2 f2
  have bX:=f1.cj f2
  have nJ:=f2.bU ov
  have x_:(e.2 != 0)=true:=by simpa using(Bt hp).1
  simp only[dE,zA,zB,aa,F5.n4,cq,x_,F5.n3,al,zD,zF,zC,zI,F5.n2]
  refine⟨_,sk,?_⟩
  simp only[aE,nJ,eL,bz]
  refine⟨⟨.inr (by omega),rfl,rfl,by simp⟩,?_⟩
  refine CE (by rw[dz nJ];rfl) (hR aQ [] _ ⟨⟨cl.dr .nil,fun _ h=>by cases h⟩,rfl,(fun _ h=>by cases h),by simp⟩ (bX.put (.inr (by omega))))
end
end
section
open Go.Ab
attribute [-simp] aV aE
section
variable {h:AH} {M:Nat->Prop} {R:AE->AH->Prop}
theorem K0{s:ByteArray}(hR:∀h',Fr h h' (fun _=>False)->R (.ret (B true)) h'):aA Pg 3 [Sb s] h M R:=by
 apply F3.aM
 unfold F3.a_ F3.bj
 refine⟨fun _=>False,fun _ h=>h.elim,OU fun h1 f1=>?_⟩
 simp only[dA,zS,F3.aS,al,zE,zD,zC,zH,F3.n8]
 refine⟨fun _=>False,fun _ h=>h.elim,Kf fun iG EE h2 Ci f2=>?_⟩
 have NB:=Ci.o.gC.one
 simp only[dE,zA,zB,aa]
 have bX:=f1.cj f2
 refine jt (z:=[.int .i64 0,.int .i64 0,.slice none 0 0]) (sz:=3) (ty:=25) (cs:=[I (hF s).q,I (hF s).b,iG]) (by show(true&&(true&&(cR iG&&true)))=true;rw[NB.1];rfl) rfl rfl rfl (fun id hid=>Or.inr (zR bX.next hid)) fun v1 h3 f3 _ o1=>?_
 have eO:=bX.cj f3
 unfold F3.n7
 refine⟨fun _=>False,fun _ h=>h.elim,M_ fun lm Hp h4 D9 f4=>?_⟩
 have NA:=D9.o.gC.one
 have iP:=eO.cj f4
 simp only[dE,zA,zB,aa]
 refine jt (z:=[.int .i64 0,.int .i64 0,.slice none 0 0]) (sz:=3) (ty:=25) (cs:=[I (hF s).q,I (hF s).b,lm]) (by show(true&&(true&&(cR lm&&true)))=true;rw[NA.1];rfl) rfl rfl rfl (fun id hid=>Or.inr (zR iP.next hid)) fun v2 h5 f5 _ o2=>?_
 have qg:=iP.cj f5
 unfold F3.n6
 refine dW o2 rfl fun _=>?_
 refine dW ((f4.cj f5).bU o1) rfl fun _=>?_
 refine⟨fun _=>False,fun _ h=>h.elim,Ka (D9.o.ba f5) (Ci.o.ba ((f3.cj f4).cj f5)) (by rw[Ci.e,D9.e]) D9.n D9.g fun h6 f6=>?_⟩
 have e1:((hF s).at_==(hF s).at_)=true:=by simp
 have e2:((hF s).err==(hF s).err)=true:=by simp
 simp only[F3.n5,cA,zS,zD,zF,zC,zI,eG,e1,F3.n4,bK,zV,F3.n3,e2,F3.n2,F3.n1]
 simpa using hR h6 (qg.cj f6)
end
end
end Go.Proofs.YtjehibknlmehmaaGreat
namespace Go.Ab
open Go.RowKit
def AH.empty:AH:=⟨fun _=>none,0,fun _ _ h=>by cases h⟩
theorem Rel.empty(w:World):Rel (fun _=>none) AH.empty w:=⟨fun _ _ h=>(by cases h),fun _ _ _ _ _ _ h=>(by cases h),fun _ _=>rfl⟩
theorem Step.below{E E':Env}{h h':AH}{w w':World}(s:Step E h (fun _=>False) w E' h' w'):Below w.heap.size w w':=⟨s.os,s.tape,s.output,s.size,fun b hb=>s.frame b hb fun _ _ _ hm=>hm.elim⟩
theorem K1{P:Program}{f:FuncId}{args:List AV}{fW:List Value}(hc:aA P f args AH.empty (fun _=>False) (fun ae _=>ae=.ret (.sc (.bool true))))(ha:dg (fun _=>none) args fW)(w:World) :
  Calls P f fW.toArray w fun e w'=>e=.returned (.bool true)/\Below w.heap.size w w':=by
 refine(hc _ w fW (Rel.empty w) ha).mono ?_
 rintro e w' ⟨E',h',ae,hs,he,rfl⟩
 refine⟨?_,hs.below⟩
 cases e<;>first |exact he.elim |skip
 cases he
 rfl
end Go.Ab
namespace Go.Proofs.YtjehibknlmehmaaGreat
section
open Go.ChangeShapes Go.WideShapes Go.ChangeAt Go.RowKit Go.ChangeMaps
section
variable {H:Type} {enc:TypeId×Value->H} {P:Program}
theorem En{f:Func}{s:ChangeSpec}{apart fresh handsOn again:Bool}{W W':World}{args:Array Value}{v:Value}{ds gs:List (DataW H)}{before pa pv:List MemPlace}
  (hW:DataW.Whole enc P f.params.toList s.vars apart W args.toList ds gs before)
  (jv:∀(b:Nat)(sp:Nat->Bool)(hd:Bool),DataW.TrodAll enc P W' b sp hd f.resultTypes.toList (v.resultList f.resultTypes.size) (s.fn H (ds++gs)).results [])
  (mL:∀sp:Nat->Bool,(∀p∈before,sp p.block=true)->DataW.TrodAll enc P W' 0 sp true f.params.toList args.toList (s.fn H (ds++gs)).args pa)
  (Qn:∀sp:Nat->Bool,(∀p∈before,sp p.block=true)->DataW.TrodVars enc P W' sp s.vars (s.fn H (ds++gs)).vars pv)
  (BP:before=pa++pv) (hb:Below W.heap.size W W')
  (ed:∀(j:Nat)(t:TypeId)(r:Value),f.resultTypes[j]?=some t->(v.resultList f.resultTypes.size)[j]?=some r->Value.okWide P W' .any 0 t r) :
  s.post enc P f apart fresh handsOn again W args v W':=by
 have aL:∀p∈before,p.block<W.heap.size:=fun p hp=>hW.lt p hp
 have hold:∀p∈before,(fun b=>decide (b<W.heap.size)) p.block=true:=fun p hp=>by simpa using aL p hp
 refine⟨ds,gs,before,[],pa,pv,hW,jv _ _ _,mL _ hold,Qn _ hold,World.keptBut_mono (fun p hp=>⟨hp,?_⟩) (hb.frame (·∈before)),fun _=>?_⟩
 ·rw[BP,List.mem_append]at hp
  exact Or.inr hp
 ·obtain⟨_,_,_,_,_,hz,hn⟩:=hW
  refine⟨ed,_,_,([]++pa)++pv,⟨[]++pa,pv,trodAll_append (mL _ (fun _ _=>rfl)) (jv _ _ _),Qn _ (fun _ _=>rfl),rfl,?_,?_⟩,?_⟩
  ·intro b off hp
   have lC:MemPlace.cell b off∈before:=by rw[BP];simpa using hp
   rw[hb.frozen (aL _ lC)]
   exact hz b off lC
  ·intro ha
   have:=hn ha
   rw[BP]at this
   simpa using this
  ·intro p hp _
   rw[BP]
   simpa using hp
end
theorem Tryz.own:ownKnob Tryz.prog.godebug=none:=by kernel_rfl
end
section
open Go.ChangeShapes Go.WideShapes Go.ChangeAt Go.RowKit Go.ChangeMaps Go.Ab
theorem Ke(s:ByteArray)(w:World):Calls Tryz.prog 3 #[.string s] w fun e w'=>e=.returned (.bool true)/\Below w.heap.size w w':=
 Go.Ab.K1 (K0 fun _ _=>rfl) (.cons (.sc _) .nil) w
theorem E_(os:Os)(started:os.Started)(H:Type)(enc:TypeId×Value->H) :
  ReturnsInHanded {} Tryz.checked os 3 .any (Rows.flatReadsSpec.pre6 enc Tryz.prog Tryz.f3 Rows.flatReadsRow.domain false) (Rows.flatReadsSpec.post enc Tryz.prog Tryz.f3 false true false false):=by
 refine returnsInHanded_of_change (C:=Tryz.checked) Tryz.own started (by kernel_rfl) Tryz.func3
  (ChangeSpec.witness6 (enc:=enc) (C:=Tryz.checked) false ⟨#[],#[.string ⟨#[]⟩],[]⟩ 8 (by kernel_rfl) (by kernel_rfl) (by kernel_rfl) (by kernel_rfl)) ?_
 intro W base args ds gs before Qo hW abN _
 have UF:∀(j:Nat) t v,Tryz.f3.params[j]?=some t->args[j]?=some v->Value.okWide Tryz.prog W .any base t v:=Qo
 have Yd:=hW
 obtain⟨p,q,Yj,hV,rfl,tP,hnd⟩:=hW
 have hA:DataW.TrodAll enc Tryz.prog W 0 (fun _=>true) true Tryz.f3.params.toList args.toList ds p:=Yj
 rw[Tryz.params3]at hA UF
 obtain⟨v0,d0,rfl,rfl,h0⟩:=trodAll_one hA
 obtain⟨rfl,rfl⟩:=trodVars_none hV
 obtain⟨a,rfl,rfl,rfl,wa⟩:=open_string Tryz.underlying9 (UF 0 9 v0 rfl rfl) h0
 clear Yj Qo
 simp only[List.append_nil]at Yd
 refine(Ke a W).mono fun e W' ⟨he,hb⟩=>?_
 subst he
 exact⟨_,rfl,En (pa:=[]) (pv:=[]) Yd (fun _ _ _=>trodAll_mk1 (shut_bool Tryz.underlying4 true)) (fun sp _=>trodAll_mk1 (shut_string Tryz.underlying9 wa)) (fun _ _=>rfl) rfl hb (ok_one (by kernel_rfl) rfl (okWide_bool_mk Tryz.underlying4 true))⟩
theorem flatreads_said:Rows.FlatReadsSaid:=
 OpenClaim.holds_of_wide 3 Tryz.f3 rfl rfl rfl rfl rfl rfl rfl ⟨rfl,rfl,rfl,rfl,rfl⟩ rfl rfl rfl rfl rfl (by kernel_rfl) Tryz.func3 (by kernel_rfl)
  (of_decide_eq_true (by kernel_rfl)) (by unfold Func.isWrapper;first |(rw[zX (by decide +kernel)];kernel_rfl) |(rw[zW (by decide +kernel)];exact⟨rfl,rfl⟩))
  (fun os started H enc _=>E_ os started H enc)
end
end Go.Proofs.YtjehibknlmehmaaGreat
