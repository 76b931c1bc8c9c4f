/- The grammar; what is shown is scanned and read as the same rows. No condition. -/
import Derived.Test.YtjehibknlmehmaaGreatDoorTbk
set_option maxRecDepth 100000
namespace Go.Proofs.YtjehibknlmehmaaGreatDoor
section
open Go.Ab
def AG(L:List Tok)(rows:List Row):Prop:=∀r∈rows,r.args.length<=L.length/\r.num<=9007199254740991
section
variable {L:List Tok} {en:Int}
theorem ED:∀(l:List UInt8)(n:Int){m:Int},n<=9007199254740991->il l n=some m->m<=9007199254740991
 |[],n,m,hn,h=>by simp only[il,zQ]at h;omega
 |c::l,n,m,hn,h=>by
  simp only[il]at h
  split at h
  ·cases h
  ·exact ED l _ (by omega) h
theorem uq{p:Nat}{n:Int}(h:dm L en p=.ok n):n<=9007199254740991:=by
 unfold dm at h
 cases hn:eQ L en p (g_ L p) with
 |error e=>rw[hn]at h;cases h
 |ok t=>
  rw[hn]at h
  simp only at h
  split at h
  ·rename_i m hm;cases h;exact ED _ _ (by decide) hm
  ·cases h
def uU(L:List Tok)(step:Nat->iF (Nat×List Row)):Prop:=∀p p' new,step p=.ok (p',new)->AG L new
theorem AG.one{row:Row}(h:row.args.length<=L.length/\row.num<=9007199254740991):AG L [row]:=fun r hr=>by simp only[List.mem_singleton]at hr;subst hr;exact h
theorem AG.dY{a b:List Row}(ha:AG L a)(hb:AG L b):AG L (a++b):=fun r hr=>(List.mem_append.1 hr).elim (ha r) (hb r)
theorem uu{p p':Nat}{row:Row}{l:List Row}(hr:row.args.length<=L.length/\row.num<=9007199254740991)(h:ja L en p row=.ok (p',l)):AG L l:=by
 obtain⟨_,_,rfl⟩:=ru h
 exact .one hr
theorem Fb{step:Nat->iF (Nat×List Row)}(hs:uU L step):∀(n p:Nat)(acc:List Row){l:List Row}{p':Nat},AG L acc->jO L step n p acc=.ok (p',l)->AG L l
 |0,_,_,_,_,_,h=>by simp[jO]at h
 |n+1,p,acc,l,p',ha,h=>by
  simp only[jO]at h
  split at h
  ·cases h;exact ha
  ·cases hn:step p with
   |error e=>rw[hn]at h;cases h
   |ok x=>
    obtain⟨p1,new⟩:=x
    rw[hn]at h
    exact Fb hs n p1 _ (ha.dY (hs _ _ _ hn)) h
theorem WD{k:Nat}{step:Nat->iF (Nat×List Row)}(hs:uU L step){p p':Nat}{l:List Row}(h:xm L en k step p=.ok (p',l)):AG L l:=by
 unfold xm at h
 cases hn:kb L en p kM with
 |error e=>rw[hn]at h;cases h
 |ok t=>
  rw[hn]at h
  cases k with
  |zero=>cases h
  |succ k=>
   simp only at h
   cases hl:jO L step (L.length+1) (p+1) [] with
   |error e=>rw[hl]at h;cases h
   |ok x=>
    obtain⟨p1,rows⟩:=x
    rw[hl]at h
    cases h
    exact Fb hs _ _ _ (fun _ hr=>by cases hr) hl
theorem Ai{k:Nat}{step:Nat->iF (Nat×List Row)}(hs:uU L step){p p':Nat}{row:Row}{l:List Row}(hr:row.args.length<=L.length/\row.num<=9007199254740991)(h:jS L en k step p row=.ok (p',l)):AG L l:=by
 unfold jS at h
 cases hn:xm L en k step p with
 |error e=>rw[hn]at h;cases h
 |ok x=>
  obtain⟨p1,rows⟩:=x
  rw[hn]at h;cases h
  intro r hm
  rcases List.mem_cons.1 hm with hm |hm
  ·subst hm;exact hr
  ·exact WD hs hn r hm
theorem M9{k:Nat}{step:Nat->iF (Nat×List Row)}(hs:uU L step){p p':Nat}{t:Tok}{l:List Row}(hp:p<L.length)(h:ka L en k step p t=.ok (p',l)):AG L l:=by
 unfold ka at h
 split at h
 ·cases h1:eu L en (p+1) with
  |error e=>rw[h1]at h;cases h
  |ok nm=>
   rw[h1]at h;simp only at h
   cases h2:dm L en (p+2) with
   |error e=>rw[h2]at h;cases h
   |ok n=>rw[h2]at h;exact uu ⟨by simp,uq h2⟩ h
 split at h
 ·cases h1:eu L en (p+1) with
  |error e=>rw[h1]at h;cases h
  |ok nm=>
   rw[h1]at h;simp only at h
   have:=(pg h1).1
   cases h2:jn L en (L.length+1) (p+2) [] with
   |error e=>rw[h2]at h;cases h
   |ok x=>obtain⟨l2,p2⟩:=x;rw[h2]at h;have a:=wz _ _ _ (by omega) h2;simp at a;exact Ai hs ⟨by simp only;omega,by simp⟩ h
 split at h
 ·cases h1:dm L en (p+1) with
  |error e=>rw[h1]at h;cases h
  |ok n=>rw[h1]at h;exact Ai hs ⟨by simp,uq h1⟩ h
 split at h
 ·cases h1:eu L en (p+1) with
  |error e=>rw[h1]at h;cases h
  |ok nm=>
   rw[h1]at h;simp only at h
   cases h2:dm L en (p+2) with
   |error e=>rw[h2]at h;cases h
   |ok n=>rw[h2]at h;exact Ai hs ⟨by simp,uq h2⟩ h
 split at h
 ·cases h1:gR L en (p+1) with
  |error e=>rw[h1]at h;cases h
  |ok x=>
   obtain⟨a,p1⟩:=x
   rw[h1]at h;simp only at h
   have:=mr h1
   cases h2:gR L en p1 with
   |error e=>rw[h2]at h;cases h
   |ok y=>obtain⟨b,p2⟩:=y;rw[h2]at h;have:=mr h2;exact uu ⟨by simp;omega,by simp⟩ h
 split at h
 ·cases h1:gR L en (p+1) with
  |error e=>rw[h1]at h;cases h
  |ok x=>
   obtain⟨a,p1⟩:=x
   rw[h1]at h;simp only at h
   have:=mr h1
   exact uu ⟨by simp;omega,by simp⟩ h
 ·cases h1:kU L en (L.length+1) (p+1) [] with
  |error e=>rw[h1]at h;cases h
  |ok x=>
   obtain⟨l2,p2⟩:=x
   rw[h1]at h;simp only at h
   have:=As _ _ _ (by omega) h1
   simp at this
   exact uu ⟨by simp only;omega,by simp⟩ h
theorem M7:∀(k:Nat),uU L (gz L en k):=by
 have key:∀k,uU L (jL L en k)->uU L (gz L en k):=by
  intro k hk p p' new h
  rw[tY]at h
  cases h1:eQ L en p (eX L p) with
  |error e=>rw[h1]at h;cases h
  |ok t=>rw[h1]at h;exact M9 hk (pf h1).1 h
 intro k
 induction k with
 |zero=>exact key 0 (fun _ _ _ h=>by simp[jL]at h)
 |succ k ih=>exact key (k+1) ih
theorem Hm:∀(n p:Nat)(acc:List Row){l:List Row},p<=L.length->acc.length<=p->AG L acc->ng L en n p acc=.ok l->AG L l/\l.length<=L.length
 |0,_,_,_,_,_,_,h=>by simp[ng]at h
 |n+1,p,acc,l,hp,hl,ha,h=>by
  simp only[ng]at h
  split at h
  ·cases hn:gz L en 32 p with
   |error e=>rw[hn]at h;cases h
   |ok x=>
    obtain⟨p1,new⟩:=x
    rw[hn]at h
    obtain⟨b1,b2,b3⟩:=zk 32 p p1 new hn
    exact Hm n p1 _ b2 (by simp;omega) (ha.dY (M7 32 _ _ _ hn)) h
  ·cases h;exact⟨ha,by omega⟩
theorem G1{s:ByteArray}{l:List Row}(h:kj s=.ok l):l.length<=65536/\∀r∈l,r.args.length<=65536/\r.num<=9007199254740991:=by
 unfold kj at h
 split at h
 ·cases h
 ·rename_i hs
  split at h
  ·cases h
  ·rename_i L gh
   have hL:=(EJ (by omega) gh).len
   obtain⟨a,b⟩:=Hm _ _ _ (Nat.zero_le _) (by simp) (fun _ hr=>by cases hr) h
   exact⟨by omega,fun r hr=>by have:=a r hr;exact⟨by omega,this.2⟩⟩
end
end
section
open Go.Ab
section
variable {L:List Tok} {en:Int}
structure Good (L:List Tok) (en:Int):Prop where
 pos:0<=en
 at_:∀t∈L,0<=t.at_/\t.at_<=en
variable (G:Good L en)
include G
end
def VC(r:Row):ByteArray:=if r.kind=bw then r.name else r.kind
inductive oA (L:List Tok):Nat->Nat->List Row->Prop
 |nil {p p':Nat}:p<=p'->oA L p p' []
 |cons {p q p' k:Nat} {t:Tok} {r:Row} {l:List Row}:p<=k->L[k]?=some t->r.place=t.at_->VC r=t.text->0<=r.rows->r.rows<=l.length->k<q->oA L q p' l->oA L p p' (r::l)
theorem oA.dY{L:List Tok}{p q p':Nat}{a b:List Row}(h:oA L p q a)(k:oA L q p' b):oA L p p' (a++b):=by
 induction h with
 |nil h1=>
  cases k with
  |nil h2=>exact .nil (by omega)
  |cons a1 a2 a3 a4 a5 a6 a7 a8=>exact .cons (by omega) a2 a3 a4 a5 a6 a7 a8
 |cons a1 a2 a3 a4 a5 a6 a7 a8 ih=>
  rw[List.cons_append]
  exact .cons a1 a2 a3 a4 a5 (Int.le_trans a6 (Int.ofNat_le.2 (by rw[List.length_append];omega))) a7 (ih k)
theorem oA.len{L:List Tok}{p p':Nat}{l:List Row}(h:oA L p p' l):l=[]\/p+l.length<=L.length:=by
 induction h with
 |nil _=>exact .inl rfl
 |cons a1 a2 a3 a4 a5 a6 a7 a8 ih=>
  have:=(zM.1 a2).1
  rcases ih with ih |ih
  ·subst ih;exact .inr (by simp only[List.length_cons,List.length_nil];omega)
  ·exact .inr (by simp only[List.length_cons];omega)
end
section
open Go.Ab
attribute [-simp] aH az
theorem oA.places{L:List Tok}{p p':Nat}{l:List Row}(h:oA L p p' l):∀r∈l,∃t∈L,r.place=t.at_:=by
 induction h with
 |nil _=>intro r hr;cases hr
 |cons a1 a2 a3 a4 a5 a6 a7 a8 ih=>
  intro r hr
  rcases List.mem_cons.1 hr with rfl |hr
  ·exact⟨_,zP a2,a3⟩
  ·exact ih r hr
theorem M_{s:ByteArray}{rows:List Row}(h:kj s=.ok rows):Small rows:=by
 obtain⟨a,b⟩:=G1 h
 exact⟨by omega,fun r hr=>by have:=b r hr;omega⟩
end
section
open Go.Ab
theorem EM(p:Int->Bool)(s:ByteArray)(i:Nat):eN p s i=if i<s.size/\p (dn s i)=true then eN p s (i+1) else i:=by
 rw[eN]
 by_cases h:i<s.size
 ·have hb:dn s i=s[i].toNat:=by simp[dn,h]
  rw[dif_pos h,hb]
  by_cases hp:p s[i].toNat=true
  ·rw[zX hp,zX ⟨h,hp⟩]
  ·rw[zW hp,zW (fun hh=>hp hh.2)]
 ·rw[dif_neg h,zW (fun hh=>h hh.1)]
inductive Reach (s:ByteArray):Nat->List Tok->Nat->List Tok->Prop
 |refl (i:Nat) (acc:List Tok):Reach s i acc i acc
 |skip {i j k:Nat} {acc jv:List Tok}:i<s.size->jb s i (dn s i)=.skip j->i<j->Reach s j acc k jv->Reach s i acc k jv
 |tok {i j k:Nat} {t:Tok} {acc jv:List Tok}:i<s.size->jb s i (dn s i)=.tok t j->i<j->Reach s j (acc++[t]) k jv->Reach s i acc k jv
theorem Reach.scan{s:ByteArray}{i k:Nat}{acc jv:List Tok}(h:Reach s i acc k jv):fB s i acc=fB s k jv:=by
 induction h with
 |refl i acc=>rfl
 |skip h1 h2 h3 _ ih=>rw[fB,dif_pos h1];simp only[h2,zX h3];exact ih
 |tok h1 h2 h3 _ ih=>rw[fB,dif_pos h1];simp only[h2,zX h3];exact ih
theorem Reach.le{s:ByteArray}{i k:Nat}{acc jv:List Tok}(h:Reach s i acc k jv):i<=k:=by
 induction h with
 |refl i acc=>exact zU _
 |skip _ _ _ _ ih=>omega
 |tok _ _ _ _ ih=>omega
end
section
open Go.Ab
abbrev db:=Int×ByteArray
def kt(t:Tok):db:=(t.kind,t.text)
def er(r:Row):Row:={ r with place:=0 }
def pj(x:db):Prop:=x.1=1/\wq x.2=false
def Cf(x:db)(v:Int):Prop:=x.1=2/\il x.2.data.toList 0=some v
abbrev eE(s:ByteArray):db:=(3,s)
inductive ti:List db->Arg->Prop
 |plain {x:db}:pj x->ti [x] ⟨x.2,-1⟩
 |ix {x y:db} {v:Int}:pj x->Cf y v->ti [x,eE ub,y,eE zp] ⟨x.2,v⟩
inductive yf:List db->List Arg->Prop
 |nil:yf [] []
 |cons {a b:List db} {x:Arg} {l:List Arg}:ti a x->yf b l->yf (a++b) (x::l)
inductive Hd:List db->Row->Bool->Prop
 |ao {x y z:db} {v:Int}:x.1=1->(x.2=aS\/x.2=bz)->pj y->Cf z v->Hd [x,y,z] ⟨x.2,y.2,[],v,0,0⟩ false
 |gate {x y:db} {l:List db}:x.1=1->x.2=aN->pj y->(∀z∈l,pj z)->Hd (x::y::l) ⟨x.2,y.2,l.map (fun z=>⟨z.2,-1⟩),0,0,0⟩ true
 |vg {x z:db} {v:Int}:x.1=1->x.2=aG->Cf z v->Hd [x,z] ⟨x.2,cQ,[],v,0,0⟩ true
 |cond {x y z:db} {v:Int}:x.1=1->x.2=cz->pj y->Cf z v->Hd [x,y,z] ⟨x.2,y.2,[],v,0,0⟩ true
 |ur {x:db} {a b:List db} {s t:Arg}:x.1=1->x.2=aQ->ti a s->ti b t->Hd (x::(a++b)) ⟨x.2,cQ,[s,t],0,0,0⟩ false
 |reset {x:db} {a:List db} {s:Arg}:x.1=1->x.2=bB->ti a s->Hd (x::a) ⟨x.2,cQ,[s],0,0,0⟩ false
 |vf {x:db} {a:List db} {l:List Arg}:pj x->yf a l->Hd (x::a) ⟨bw,x.2,l,0,0,0⟩ false
abbrev RO:=Row×Nat
def sh(n:Nat)(x:RO):RO:=(x.1,x.2+n)
inductive Sq:Nat->List db->List RO->Prop
 |nil {k:Nat}:Sq k [] []
 |leaf {k:Nat} {h b:List db} {row:Row} {rb:List RO}:Hd h row false->Sq k b rb->Sq k (h++eE l_::b) ((row,0)::rb.map (sh (h.length+1)))
 |held {k:Nat} {h b c:List db} {row:Row} {rb rc:List RO}:Hd h row true->Sq k b rb->Sq (k+1) c rc ->
   Sq (k+1) (h++eE kM::(b++eE jw::c)) (({ row with rows:=rb.length },0)::(rb.map (sh (h.length+1))++rc.map (sh (h.length+1+b.length+1))))
section
variable {L:List Tok} {en:Int}
def xA(L:List Tok)(p q:Nat)(h:List db):Prop:=(L.map kt).drop p=h++(L.map kt).drop q/\q=p+h.length
theorem xA.nil{p:Nat}:xA L p p []:=⟨rfl,rfl⟩
theorem xA.dY{p q r:Nat}{a b:List db}(h1:xA L p q a)(h2:xA L q r b):xA L p r (a++b):=⟨by rw[h1.1,h2.1,List.append_assoc],by rw[h2.2,h1.2,List.length_append];omega⟩
theorem xA.one{p:Nat}{t:Tok}(h:L[p]?=some t):xA L p (p+1) [kt t]:=by
 refine⟨?_,rfl⟩
 obtain⟨hl,rfl⟩:=zM.1 h
 rw[List.drop_eq_getElem_cons (by simpa using hl)]
 simp
def acz(L:List Tok)(j:Nat):Int:=match L[j]? with |some t=>t.at_ |none=>-1
def RR(L:List Tok)(p:Nat)(rows:List Row)(rs:List RO):Prop:=rows.map (fun r=>(er r,r.place))=rs.map (fun x=>(x.1,acz L (p+x.2)))
theorem RR.nil{p:Nat}:RR L p [] []:=rfl
theorem RR.dY{p q:Nat}{a b:List Row}{ra rb:List RO}{n:Nat}(h1:RR L p a ra)(h2:RR L q b rb)(hq:q=p+n):RR L p (a++b) (ra++rb.map (sh n)):=by
 subst hq
 unfold RR at *
 rw[List.map_append,List.map_append,h1,h2,List.map_map]
 congr 1
 apply List.map_congr_left
 intro x _
 simp only[Function.comp,sh]
 rw[show p+n+x.2=p+(x.2+n) by omega]
theorem RR.len{p:Nat}{a:List Row}{ra:List RO}(h:RR L p a ra):a.length=ra.length:=by
 have:=congrArg List.length h
 simpa using this
end
end
section
open Go.Ab
section
variable {L:List Tok} {en:Int}
theorem rK{p:Nat}{a:db}{l:List db}(h:(L.map kt).drop p=a::l):∃t,L[p]?=some t/\kt t=a/\(L.map kt).drop (p+1)=l:=by
 have h0:(L.map kt)[p]?=some a:=by
  have:=congrArg (fun x=>x[0]?) h
  simpa using this
 rw[List.getElem?_map]at h0
 cases hg:L[p]? with
 |none=>rw[hg]at h0;cases h0
 |some t=>
  rw[hg]at h0
  refine⟨t,rfl,by simpa using h0,?_⟩
  have:=congrArg (List.drop 1) h
  simpa[List.drop_drop] using this
theorem oZ{p:Nat}{x:db}{l:List db}(h:(L.map kt).drop p=x::l)(hx:pj x):jm L p=true/\eu L en p=.ok x.2/\(L.map kt).drop (p+1)=l/\eX L p=true:=by
 obtain⟨t,h1,rfl,h3⟩:=rK h
 have hk:t.kind=1:=hx.1
 have ho:wq t.text=false:=hx.2
 have hp:jm L p=true:=by simp[jm,h1,hk,ho]
 exact⟨hp,by simp[eu,eQ,h1,hp,Except.map,kt],h3,by simp[eX,h1,hk]⟩
theorem um{p:Nat}{x:db}{v:Int}{l:List db}(h:(L.map kt).drop p=x::l)(hx:Cf x v):dm L en p=.ok v/\(L.map kt).drop (p+1)=l:=by
 obtain⟨t,h1,rfl,h3⟩:=rK h
 have hk:t.kind=2:=hx.1
 have hv:il t.text.data.toList 0=some v:=hx.2
 have hp:g_ L p=true:=by simp[g_,h1,hk]
 exact⟨by simp[dm,eQ,h1,hp,hv],h3⟩
theorem v8{p:Nat}{s:ByteArray}{l:List db}(h:(L.map kt).drop p=eE s::l):hU L p s=true/\(∃t,kb L en p s=.ok t)/\(L.map kt).drop (p+1)=l:=by
 obtain⟨t,h1,h2,h3⟩:=rK h
 simp only[kt,eE,Prod.mk.injEq]at h2
 have hp:hU L p s=true:=by simp[hU,h1,h2.1,h2.2]
 exact⟨hp,⟨t,by simp[kb,eQ,h1,hp]⟩,h3⟩
theorem E6{p:Nat}{s:ByteArray}{x:db}{l:List db}(h:(L.map kt).drop p=x::l)(hx:x≠eE s):hU L p s=false:=by
 obtain⟨t,h1,rfl,h3⟩:=rK h
 unfold hU
 rw[h1]
 simp only
 by_cases hk:t.kind=3
 ·by_cases ht:t.text=s
  ·exact absurd (by unfold kt;rw[hk,ht]) hx
  ·simp[ht]
 ·simp[hk]
theorem CZ{p:Nat}{x:db}{l:List db}(h:(L.map kt).drop p=x::l)(hx:x.1≠1):jm L p=false:=by
 obtain⟨t,h1,rfl,h3⟩:=rK h
 unfold jm
 rw[h1]
 have:t.kind≠1:=hx
 simp[this]
theorem PJ{x:db}{s:ByteArray}(h:pj x):x≠eE s:=by
 intro hh
 subst hh
 exact absurd h.1 (by show ¬((3:Int)=1);decide)
theorem Ek{p:Nat}{a:List db}{x:Arg}{y:db}{l:List db}(ha:ti a x)(h:(L.map kt).drop p=a++y::l)(hy:y≠eE ub):gR L en p=.ok (x,p+a.length)/\(L.map kt).drop (p+a.length)=y::l:=by
 cases ha with
 |plain hx=>
  obtain⟨_,h1,h2,_⟩:=oZ (en:=en) h hx
  have h3:=E6 h2 hy
  exact⟨by simp[gR,h1,h3],h2⟩
 |ix hx hn=>
  obtain⟨_,h1,h2,_⟩:=oZ (en:=en) h hx
  obtain⟨g1,_,g3⟩:=v8 (en:=en) h2
  obtain⟨n1,n2⟩:=um (en:=en) g3 hn
  obtain⟨_,⟨t,s2⟩,s3⟩:=v8 (en:=en) n2
  exact⟨by simp[gR,h1,g1,n1,s2],s3⟩
theorem HD{y:db}{l:List db}(hy:y.1≠1):∀(xs:List db)(n p:Nat)(acc:List Arg),(∀z∈xs,pj z)->(L.map kt).drop p=xs++y::l->xs.length<n ->
  jn L en n p acc=.ok (acc++xs.map (fun z=>⟨z.2,-1⟩),p+xs.length)/\(L.map kt).drop (p+xs.length)=y::l
 |[],n,p,acc,_,h,hn=>by
  cases n with
  |zero=>simp at hn
  |succ n=>
   have:=CZ h hy
   exact⟨by simp[jn,this],h⟩
 |x::xs,n,p,acc,hx,h,hn=>by
  cases n with
  |zero=>simp at hn
  |succ n=>
   obtain⟨p1,p2,p3,_⟩:=oZ (en:=en) h (hx x (by simp))
   obtain⟨a1,a2⟩:=HD hy xs n (p+1) (acc++[⟨x.2,-1⟩]) (fun z hz=>hx z (by simp[hz])) p3 (by simpa using hn)
   refine⟨?_,by rw[List.length_cons,show p+(xs.length+1)=p+1+xs.length by omega];exact a2⟩
   simp only[jn,p1,zV,p2]
   rw[a1]
   simp;omega
theorem ti.head{a:List db}{x:Arg}(h:ti a x):∃z l,a=z::l/\pj z:=by
 cases h with
 |plain h=>exact⟨_,_,rfl,h⟩
 |ix h _=>exact⟨_,_,rfl,h⟩
theorem WR{y:db}{l:List db}(hy:y.1≠1)(Fs:y≠eE ub){xs:List db}{l':List Arg}(hx:yf xs l'):∀(n p:Nat)(acc:List Arg),(L.map kt).drop p=xs++y::l->xs.length<n ->
  kU L en n p acc=.ok (acc++l',p+xs.length)/\(L.map kt).drop (p+xs.length)=y::l:=by
 induction hx with
 |nil=>
  intro n p acc h hn
  cases n with
  |zero=>simp at hn
  |succ n=>
   have:=CZ h hy
   exact⟨by simp[kU,this],h⟩
 | @cons a b x l2 ha hb ih=>
  intro n p acc h hn
  cases n with
  |zero=>simp at hn
  |succ n=>
   obtain⟨z,l3,rfl,hz⟩:=ha.head
   rw[List.append_assoc]at h
   obtain⟨p1,_,_,_⟩:=oZ (en:=en) (by simpa using h) hz
   have uC:∃w l4,b++y::l=w::l4/\w≠eE ub:=by
    cases hb with
    |nil=>exact⟨y,l,rfl,Fs⟩
    |cons ln _=>
     obtain⟨w,l5,rfl,hw⟩:=ln.head
     exact⟨w,_,rfl,PJ hw⟩
   obtain⟨w,l4,e4,hw⟩:=uC
   rw[e4]at h
   obtain⟨g1,g2⟩:=Ek (en:=en) ha h hw
   rw[<-e4]at g2
   obtain⟨a1,a2⟩:=ih n _ (acc++[x]) g2 (by simp at hn;omega)
   refine⟨?_,by rw[List.length_append,<-Nat.add_assoc];exact a2⟩
   simp only[kU,p1,zV,g1]
   rw[a1]
   simp;omega
theorem LH{p k:Nat}{h:List db}{row:Row}{held:Bool}{l:List db}(hh:Hd h row held)(hd:(L.map kt).drop p=h++(if held then eE kM else eE l_)::l):∃iQ,er iQ=row /\
  (gz L en k p=if held then jS L en k (jL L en k) (p+h.length) iQ else ja L en (p+h.length) iQ)/\(L.map kt).drop (p+h.length)=(if held then eE kM else eE l_)::l:=by
 have first:∀(x:db)(l':List db),(L.map kt).drop p=x::l'->x.1=1->∃t,kt t=x/\gz L en k p=ka L en k (jL L en k) p t/\(L.map kt).drop (p+1)=l':=by
  intro x l' h1 h2
  obtain⟨t,g1,g2,g3⟩:=rK h1
  refine⟨t,g2,?_,g3⟩
  have hk:t.kind=1:=by rw[<-g2]at h2;exact h2
  have:eX L p=true:=by simp[eX,g1,hk]
  rw[tY]
  simp[eQ,g1,this]
 have lR:∀(m:Nat)(w:List db)(y:db)(l':List db),(L.map kt).drop m=w++y::l'->w.length<L.length+1:=by
  intro m w y l' h1
  have:=congrArg List.length h1
  simp at this
  omega
 cases hh with
 | @ao x y z v hx hc hy hz=>
  obtain⟨t,rfl,e,d1⟩:=first _ _ hd hx
  obtain⟨_,n1,d2,_⟩:=oZ (en:=en) d1 hy
  obtain⟨m1,d3⟩:=um (en:=en) d2 hz
  refine⟨⟨t.text,y.2,[],v,0,t.at_⟩,rfl,?_,d3⟩
  rw[e];unfold ka
  have gP:t.text=aS\/t.text=bz:=hc
  have Uy:dm L en (p+2)=.ok v:=m1
  rw[zX gP,n1];simp only[Uy];rfl
 | @gate x y l' hx hc hy hl=>
  obtain⟨t,rfl,e,d1⟩:=first _ _ hd hx
  obtain⟨_,n1,d2,_⟩:=oZ (en:=en) d1 hy
  obtain⟨a1,a2⟩:=HD (en:=en) (by decide) l' (L.length+1) (p+2) [] hl d2 (lR _ _ _ _ d2)
  have gP:t.text=aN:=hc
  refine⟨⟨t.text,y.2,l'.map (fun z=>⟨z.2,-1⟩),0,0,t.at_⟩,rfl,?_,by simpa[Nat.add_assoc,Nat.add_comm,Nat.add_left_comm] using a2⟩
  rw[e];unfold ka
  rw[zW (by rw[gP];decide),zX gP,n1]
  simp only[a1,List.nil_append,zV,List.length_cons]
  rw[show p+(l'.length+1+1)=p+2+l'.length by omega]
 | @vg x z v hx hc hz=>
  obtain⟨t,rfl,e,d1⟩:=first _ _ hd hx
  obtain⟨m1,d3⟩:=um (en:=en) d1 hz
  have gP:t.text=aG:=hc
  refine⟨⟨t.text,cQ,[],v,0,t.at_⟩,rfl,?_,d3⟩
  rw[e];unfold ka
  rw[zW (by rw[gP];decide),zW (by rw[gP];decide),zX gP,m1];rfl
 | @cond x y z v hx hc hy hz=>
  obtain⟨t,rfl,e,d1⟩:=first _ _ hd hx
  obtain⟨_,n1,d2,_⟩:=oZ (en:=en) d1 hy
  obtain⟨m1,d3⟩:=um (en:=en) d2 hz
  have gP:t.text=cz:=hc
  refine⟨⟨t.text,y.2,[],v,0,t.at_⟩,rfl,?_,d3⟩
  rw[e];unfold ka
  rw[zW (by rw[gP];decide),zW (by rw[gP];decide),zW (by rw[gP];decide),zX gP,n1]
  have Uy:dm L en (p+2)=.ok v:=m1
  simp only[Uy];rfl
 | @ur x a b s t2 hx hc ha hb=>
  obtain⟨t,rfl,e,d1⟩:=first _ _ hd hx
  obtain⟨w,l5,rfl,hw⟩:=hb.head
  obtain⟨a1,d2⟩:=Ek (en:=en) ha (by simpa using d1) (PJ hw)
  obtain⟨a2,d3⟩:=Ek (en:=en) hb (by simpa using d2) (by decide)
  have gP:t.text=aQ:=hc
  refine⟨⟨t.text,cQ,[s,t2],0,0,t.at_⟩,rfl,?_,by simpa[Nat.add_assoc,Nat.add_comm,Nat.add_left_comm] using d3⟩
  rw[e];unfold ka
  rw[zW (by rw[gP];decide),zW (by rw[gP];decide),zW (by rw[gP];decide),zW (by rw[gP];decide),zX gP,a1];simp only[a2]
  simp only[zE,if_false,List.length_cons,List.length_append]
  rw[show p+(a.length+(l5.length+1)+1)=p+1+a.length+(l5.length+1) by omega]
 | @reset x a s hx hc ha=>
  obtain⟨t,rfl,e,d1⟩:=first _ _ hd hx
  obtain⟨a1,d2⟩:=Ek (en:=en) ha d1 (by decide)
  have gP:t.text=bB:=hc
  refine⟨⟨t.text,cQ,[s],0,0,t.at_⟩,rfl,?_,by simpa[Nat.add_assoc,Nat.add_comm,Nat.add_left_comm] using d2⟩
  rw[e];unfold ka
  rw[zW (by rw[gP];decide),zW (by rw[gP];decide),zW (by rw[gP];decide),zW (by rw[gP];decide),zW (by rw[gP];decide),zX gP,a1]
  simp only[zE,if_false,List.length_cons]
  rw[show p+(a.length+1)=p+1+a.length by omega]
 | @vf x a l' hx ha=>
  obtain⟨t,rfl,e,d1⟩:=first _ _ hd hx.1
  obtain⟨a1,d2⟩:=WR (en:=en) (by decide) (by decide) ha (L.length+1) (p+1) [] d1 (lR _ _ _ _ d1)
  have ho:wq t.text=false:=hx.2
  simp only[wq,Bool.or_eq_false_iff,decide_eq_false_iff_not]at ho
  obtain⟨⟨⟨⟨⟨⟨o1,o2⟩,o3⟩,o4⟩,o5⟩,o6⟩,o7⟩:=ho
  refine⟨⟨bw,t.text,l',0,0,t.at_⟩,rfl,?_,by simpa[Nat.add_assoc,Nat.add_comm,Nat.add_left_comm] using d2⟩
  rw[e];unfold ka
  rw[zW (fun h=>h.elim o1 o2),zW o3,zW o4,zW o5,zW o6,zW o7]
  simp only[a1,List.nil_append,zE,if_false,List.length_cons]
  rw[show p+(a.length+1)=p+1+a.length by omega]
end
end
section
open Go.Ab
section
variable {L:List Tok} {en:Int}
theorem Hd.cons{h:List db}{row:Row}{b:Bool}(hh:Hd h row b):∃x l,h=x::l/\x.1=1:=by
 cases hh with
 |ao h _ _ _=>exact⟨_,_,rfl,h⟩
 |gate h _ _ _=>exact⟨_,_,rfl,h⟩
 |vg h _ _=>exact⟨_,_,rfl,h⟩
 |cond h _ _ _=>exact⟨_,_,rfl,h⟩
 |ur h _ _ _=>exact⟨_,_,rfl,h⟩
 |reset h _ _=>exact⟨_,_,rfl,h⟩
 |vf h _=>exact⟨_,_,rfl,h.1⟩
theorem Hd.aW{h:List db}{row:Row}{b:Bool}(hh:Hd h row b):row.rows=0/\row.place=0:=by
 cases hh<;>exact⟨rfl,rfl⟩
theorem Bb{p:Nat}{h:List db}{row:Row}{b:Bool}{l:List db}(hh:Hd h row b)(hd:(L.map kt).drop p=h++l):hU L p jw=false/\p<L.length:=by
 obtain⟨x,l',rfl,hx⟩:=hh.cons
 refine⟨E6 hd (fun e=>by rw[e]at hx;exact absurd hx (by show ¬((3:Int)=1);decide)),?_⟩
 obtain⟨t,h1,_,_⟩:=rK hd
 exact(zM.1 h1).1
theorem uG{p:Nat}{b l:List db}(h:(L.map kt).drop p=b++l):(L.map kt).drop (p+b.length)=l:=by
 rw[<-List.drop_drop,h,List.drop_left]
def Ra(L:List Tok)(en:Int)(k:Nat)(b:List db)(rb:List RO):Prop:=∀(p:Nat)(l:List db)(n:Nat)(acc:List Row),(L.map kt).drop p=b++eE jw::l->b.length<n ->
 ∃new,jO L (gz L en k) n p acc=.ok (p+b.length,acc++new)/\new.map er=rb.map (·.1)
def Yd(L:List Tok)(en:Int)(k:Nat)(b:List db)(rb:List RO):Prop:=k=32->∀(p n:Nat)(acc:List Row),(L.map kt).drop p=b->b.length<n ->
 ∃new,ng L en n p acc=.ok (acc++new)/\new.map er=rb.map (·.1)
theorem E_(rb:List RO)(n:Nat):(rb.map (sh n)).map (·.1)=rb.map (·.1):=by
 rw[List.map_map];rfl
theorem K_{k p:Nat}{h b:List db}{row:Row}(hh:Hd h row false)(hd:(L.map kt).drop p=h++eE l_::b):∃iQ,er iQ=row/\gz L en k p=.ok (p+h.length+1,[iQ]):=by
 obtain⟨iQ,e1,e2,e3⟩:=LH (en:=en) (k:=k) hh (by simpa using hd)
 simp only[zE,if_false]at e2 e3
 obtain⟨_,⟨t,s2⟩,_⟩:=v8 (en:=en) e3
 refine⟨iQ,e1,?_⟩
 rw[e2];unfold ja;rw[s2]
theorem LF{k p:Nat}{h b c:List db}{row:Row}{rb:List RO}(hh:Hd h row true)(hb:Ra L en k b rb)(hd:(L.map kt).drop p=h++eE kM::(b++eE jw::c)) :
  ∃iQ new,er iQ={ row with rows:=rb.length }/\new.map er=rb.map (·.1)/\gz L en (k+1) p=.ok (p+h.length+1+b.length+1,iQ::new):=by
 obtain⟨iQ,e1,e2,e3⟩:=LH (en:=en) (k:=k+1) hh (by simpa using hd)
 simp only[zV]at e2 e3
 obtain⟨_,⟨t,s2⟩,s3⟩:=v8 (en:=en) e3
 have lR:b.length<L.length+1:=by
  have:=congrArg List.length s3
  simp at this
  omega
 obtain⟨new,g1,g2⟩:=hb _ _ (L.length+1) [] s3 lR
 have hl:new.length=rb.length:=by have:=congrArg List.length g2;simpa using this
 refine⟨{ iQ with rows:=new.length },new,?_,g2,?_⟩
 ·rw[<-e1,hl];rfl
 ·rw[e2];unfold jS xm
  rw[s2]
  have:jL L en (k+1)=gz L en k:=rfl
  simp only[this,g1,List.nil_append]
theorem Rs{k:Nat}{b:List db}{rb:List RO}(hs:Sq k b rb):Ra L en k b rb/\Yd L en k b rb:=by
 induction hs with
 |nil=>
  refine⟨fun p l n acc h hn=>?_,fun _ p n acc h hn=>?_⟩
  ·cases n with
   |zero=>simp at hn
   |succ n=>
    obtain⟨g,_,_⟩:=v8 (en:=en) (by simpa using h)
    exact⟨[],by simp[jO,g],rfl⟩
  ·cases n with
   |zero=>simp at hn
   |succ n=>
    have:¬p<L.length:=by
     have:=congrArg List.length h
     simp at this
     omega
    exact⟨[],by simp[ng,this],rfl⟩
 | @leaf k h b row rb hh _ ih=>
  refine⟨fun p l n acc hd hn=>?_,fun hk p n acc hd hn=>?_⟩
  ·cases n with
   |zero=>simp at hn
   |succ n=>
    rw[List.append_assoc]at hd
    obtain⟨g1,_⟩:=Bb hh hd
    obtain⟨iQ,e1,e2⟩:=K_ (en:=en) (k:=k) hh hd
    have nF:(L.map kt).drop (p+h.length+1)=b++eE jw::l:=by
     have:=uG (b:=h++[eE l_]) (l:=b++eE jw::l) (by simpa using hd)
     simpa[Nat.add_assoc] using this
    obtain⟨new,e3,e4⟩:=ih.1 _ _ n (acc++[iQ]) nF (by simp at hn;omega)
    refine⟨iQ::new,?_,by simp[e1,e4,sh]⟩
    simp only[jO,g1,zE,if_false,e2]
    rw[e3]
    simp;omega
  ·cases n with
   |zero=>simp at hn
   |succ n=>
    obtain⟨_,g1⟩:=Bb hh hd
    obtain⟨iQ,e1,e2⟩:=K_ (en:=en) (k:=k) hh hd
    have nF:(L.map kt).drop (p+h.length+1)=b:=by
     have:=uG (b:=h++[eE l_]) (l:=b) (by simpa using hd)
     simpa[Nat.add_assoc] using this
    obtain⟨new,e3,e4⟩:=ih.2 hk _ n (acc++[iQ]) nF (by simp at hn;omega)
    subst hk
    refine⟨iQ::new,?_,by simp[e1,e4,sh]⟩
    simp only[ng,g1,zV,e2]
    rw[e3]
    simp
 | @held k h b c row rb rc hh _ _ YZ YY=>
  refine⟨fun p l n acc hd hn=>?_,fun hk p n acc hd hn=>?_⟩
  ·cases n with
   |zero=>simp at hn
   |succ n=>
    have sD:(L.map kt).drop p=h++eE kM::(b++eE jw::(c++eE jw::l)):=by simpa using hd
    obtain⟨g1,_⟩:=Bb hh sD
    obtain⟨iQ,nb,e1,Wj,e2⟩:=LF (en:=en) hh YZ.1 sD
    have nF:(L.map kt).drop (p+h.length+1+b.length+1)=c++eE jw::l:=by
     have:=uG (b:=h++eE kM::(b++[eE jw])) (l:=c++eE jw::l) (by simpa using hd)
     simpa[Nat.add_assoc,Nat.add_comm,Nat.add_left_comm] using this
    obtain⟨new,e3,e4⟩:=YY.1 _ _ n (acc++iQ::nb) nF (by simp at hn;omega)
    refine⟨iQ::nb++new,?_,by simp[e1,Wj,e4,sh];rfl⟩
    simp only[jO,g1,zE,if_false,e2]
    rw[e3]
    simp;omega
  ·cases n with
   |zero=>simp at hn
   |succ n=>
    obtain⟨_,g1⟩:=Bb hh hd
    obtain⟨iQ,nb,e1,Wj,e2⟩:=LF (en:=en) hh YZ.1 hd
    have nF:(L.map kt).drop (p+h.length+1+b.length+1)=c:=by
     have:=uG (b:=h++eE kM::(b++[eE jw])) (l:=c) (by simpa using hd)
     simpa[Nat.add_assoc,Nat.add_comm,Nat.add_left_comm] using this
    obtain⟨new,e3,e4⟩:=YY.2 hk _ n (acc++iQ::nb) nF (by simp at hn;omega)
    rw[hk]at e2
    refine⟨iQ::nb++new,?_,by simp[e1,Wj,e4,sh];rfl⟩
    simp only[ng,g1,zV,e2]
    rw[e3]
    simp
end
end
section
open Go.Ab
def Dr(s:ByteArray)(i:Nat)(u:List UInt8):Prop:=(ls s).drop i=u/\i<=s.size
section
variable {s:ByteArray} {i j k:Nat} {u v w:List UInt8} {c:UInt8}
theorem rq(s:ByteArray):(ls s).length=s.size:=rfl
theorem Dr.dY(h:Dr s i (u++v)):Dr s (i+u.length) v:=by
 refine⟨by rw[<-List.drop_drop,h.1,List.drop_left],?_⟩
 have:=congrArg List.length h.1
 rw[List.length_drop,rq,List.length_append]at this
 have:=h.2
 omega
theorem Dr.size(h:Dr s i u):s.size=i+u.length:=by
 have:=congrArg List.length h.1
 rw[List.length_drop,rq]at this
 have:=h.2
 omega
theorem Dr.lt(h:Dr s i (c::v)):i<s.size:=by have:=h.size;simp at this;omega
theorem Dr.byte(h:Dr s i (c::v)):dn s i=c.toNat:=by
 have aJ:=h.lt
 have h1:(ls s)[i]?=some c:=by
  have:=congrArg (fun l=>l[0]?) h.1
  simpa using this
 unfold dn
 have h2:s[i]?=some c:=by
  rw[getElem?_pos s i aJ]
  have h3:(ls s)[i]'(by rw[rq];exact aJ)=c:=by
   rw[zJ (by rw[rq];exact aJ)]at h1
   exact Option.some.inj h1
  rw[<-h3];rfl
 rw[h2]
theorem Dr.tail(h:Dr s i (c::v)):Dr s (i+1) v:=Dr.dY (u:=[c]) h
theorem Dr.ext(h:Dr s i (u++v)):s.extract i (i+u.length)=bs u:=by
 apply ByteArray.ext
 apply Array.ext'
 have:(s.extract i (i+u.length)).data.toList=((ls s).drop i).take u.length:=by
  simp[ByteArray.data_extract,List.extract_eq_take_drop]
 rw[this,h.1,List.take_left]
theorem EL(p:Int->Bool):∀{u:List UInt8}{i:Nat},Dr s i (u++v)->(∀c∈u,p c.toNat=true)->(∀c∈v.head?,p (c.toNat:Nat)=false)->eN p s i=i+u.length
 |[],i,h,_,hv=>by
  rw[EM,zW];· rfl
  rintro⟨h1,h2⟩
  cases v with
  |nil=>have:=h.size;simp at this;omega
  |cons c v=>
   rw[Dr.byte h]at h2
   have:=hv c (by simp)
   rw[h2]at this;cases this
 |c::u,i,h,hu,hv=>by
  have h1:Dr s i (c::(u++v)):=h
  rw[EM,zX ⟨h1.lt,by rw[h1.byte];exact hu c (by simp)⟩,EL p h1.tail (fun z hz=>hu z (by simp[hz])) hv]
  simp;omega
theorem RE(p:Int->Bool)(s:ByteArray):∀(n i:Nat),s.size-i=n->i<=s.size->eN p s i=s.size->∀c∈(ls s).drop i,p (c.toNat:Nat)=true:=by
 intro n
 induction n with
 |zero=>intro i h1 h2 _ c hc;rw[List.drop_of_length_le (by rw[rq];omega)]at hc;cases hc
 |succ n ih=>
  intro i h1 h2 h3 c hc
  have aJ:i<(ls s).length:=by rw[rq];omega
  have e:(ls s).drop i=(ls s)[i]::(ls s).drop (i+1):=List.drop_eq_getElem_cons aJ
  have hd:Dr s i ((ls s)[i]::(ls s).drop (i+1)):=⟨e,by omega⟩
  rw[EM]at h3
  split at h3
  ·rename_i hp
   rw[hd.byte]at hp
   rw[e]at hc
   rcases List.mem_cons.1 hc with hc |hc
   ·subst hc;exact hp.2
   ·exact ih (i+1) (by omega) (by omega) h3 c hc
  ·omega
theorem IV(h:jh s=true):∃c w,ls s=c::w/\ed (c.toNat:Nat)=true/\∀z∈c::w,fm (z.toNat:Nat)=true:=by
 unfold jh at h
 simp only[yC,decide_eq_true_eq,beq_iff_eq]at h
 obtain⟨⟨h1,h2⟩,h3⟩:=h
 have ha:=RE fm s _ 0 rfl (by omega) h3
 rw[List.drop_zero]at ha
 cases hl:ls s with
 |nil=>have:=rq s;rw[hl]at this;simp at this;omega
 |cons c w=>
  rw[hl]at ha
  have hd:Dr s 0 (c::w):=⟨by rw[List.drop_zero];exact hl,by omega⟩
  rw[hd.byte]at h2
  exact⟨c,w,rfl,h2,ha⟩
theorem Reach.trans{i j k:Nat}{a b c:List Tok}(h1:Reach s i a j b)(h2:Reach s j b k c):Reach s i a k c:=by
 induction h1 with
 |refl=>exact h2
 |skip a b c _ ih=>exact .skip a b c (ih h2)
 |tok a b c _ ih=>exact .tok a b c (ih h2)
def tR(s:ByteArray)(i j:Nat)(ks:List db):Prop:=∃T:List Tok,T.map kt=ks/\∀acc,Reach s i acc j (acc++T)
theorem tR.nil:tR s i i []:=⟨[],rfl,fun acc=>by rw[List.append_nil];exact .refl _ _⟩
theorem tR.dY{a b:List db}(h1:tR s i j a)(h2:tR s j k b):tR s i k (a++b):=by
 obtain⟨T,e,h⟩:=h1
 obtain⟨U,e',h'⟩:=h2
 refine⟨T++U,by rw[List.map_append,e,e'],fun acc=>?_⟩
 rw[<-List.append_assoc]
 exact(h acc).trans (h' _)
theorem tR.one{t:Tok}(h1:i<s.size)(h2:jb s i (dn s i)=.tok t j)(h3:i<j):tR s i j [kt t]:=⟨[t],rfl,fun _=>.tok h1 h2 h3 (.refl _ _)⟩
end
def ik(u:List UInt8)(ks:List db):Prop:=∀ ⦃s:ByteArray⦄ ⦃i:Nat⦄ ⦃v:List UInt8⦄,Dr s i (u++v)->tR s i (i+u.length) ks
def Nx(v:List UInt8):Prop:=∀c∈v.head?,fm ((c:UInt8).toNat:Nat)=false
def Ch(u:List UInt8)(ks:List db):Prop:=∀ ⦃s:ByteArray⦄ ⦃i:Nat⦄ ⦃v:List UInt8⦄,Dr s i (u++v)->Nx v->tR s i (i+u.length) ks
section
variable {u w:List UInt8} {a b:List db}
theorem ik.nil:ik [] []:=fun _ _ _ _=>.nil
theorem ik.to(h:ik u a):Ch u a:=fun _ _ _ d _=>h d
theorem ik.dY(h1:ik u a)(h2:ik w b):ik (u++w) (a++b):=fun s i v d=>by
 rw[List.append_assoc]at d
 rw[List.length_append,<-Nat.add_assoc]
 exact(h1 d).dY (h2 d.dY)
theorem ik.ch(h1:ik u a)(h2:Ch w b):Ch (u++w) (a++b):=fun s i v d hv=>by
 rw[List.append_assoc]at d
 rw[List.length_append,<-Nat.add_assoc]
 exact(h1 d).dY (h2 d.dY hv)
theorem Nx.dY{v:List UInt8}(h:Nx w)(hv:Nx v):Nx (w++v):=by
 cases w with
 |nil=>exact hv
 |cons c w=>exact fun z hz=>h z (by simpa using hz)
theorem Nx.ne{v:List UInt8}(h:Nx w)(hw:w≠[]):Nx (w++v):=by
 cases w with
 |nil=>exact absurd rfl hw
 |cons c w=>exact fun z hz=>h z (by simpa using hz)
theorem Ch.dY(h1:Ch u a)(h2:Ch w b)(hw:Nx w):Ch (u++w) (a++b):=fun s i v d hv=>by
 rw[List.append_assoc]at d
 rw[List.length_append,<-Nat.add_assoc]
 exact(h1 d (hw.dY hv)).dY (h2 d.dY hv)
theorem Ch.end(h1:Ch u a)(h2:ik w b)(hw:Nx w)(hn:w≠[]):ik (u++w) (a++b):=fun s i v d=>by
 rw[List.append_assoc]at d
 rw[List.length_append,<-Nat.add_assoc]
 exact(h1 d (hw.ne hn)).dY (h2 d.dY)
theorem Gt{c:UInt8}(hc:kw (c.toNat:Nat)=true):ik [c] []:=fun s i v d=>by
 have hl:jb s i (dn s i)=.skip (i+1):=by rw[Dr.byte d];unfold jb;rw[zX hc]
 exact⟨[],rfl,fun acc=>by rw[List.append_nil];exact .skip (Dr.lt d) hl (Nat.lt_succ_self _) (.refl _ _)⟩
theorem tp{c:UInt8}(hc:(kw (c.toNat:Nat)||((c.toNat:Nat):Int)==35||ed (c.toNat:Nat)||isDigit (c.toNat:Nat))=false)(hs:pi (c.toNat:Nat)=true):ik [c] [(3,bs [c])]:=fun s i v d=>by
 simp only[Bool.or_eq_false_iff]at hc
 obtain⟨⟨⟨h1,h2⟩,h3⟩,h4⟩:=hc
 have hl:jb s i (dn s i)=.tok ⟨3,bs [c],i⟩ (i+1):=by
  rw[Dr.byte d];unfold jb
  rw[h1,h2,h3,h4,hs,zW (by decide),zW (by decide),zW (by decide),zW (by decide),zX rfl,show s.extract i (i+1)=bs [c] from Dr.ext (u:=[c]) d]
 exact tR.one (Dr.lt d) hl (Nat.lt_succ_self _)
theorem Fg{c:Int}(h:ed c=true):kw c=false/\(c==35)=false:=by
 unfold ed at h
 simp only[Bool.or_eq_true,yC,decide_eq_true_eq,beq_iff_eq]at h
 unfold kw
 simp only[Bool.or_eq_false_iff,beq_eq_false_iff_ne]
 omega
theorem G_{c:Int}(h:isDigit c=true):kw c=false/\(c==35)=false/\ed c=false:=by
 unfold isDigit at h
 simp only[yC,decide_eq_true_eq]at h
 unfold kw ed
 simp only[Bool.or_eq_false_iff,Bool.and_eq_false_iff,decide_eq_false_iff_not,beq_eq_false_iff_ne]
 omega
theorem qQ{n:ByteArray}(h:jh n=true):Ch (ls n) [(1,n)]:=fun s i v d hv=>by
 obtain⟨c,w,e,hc,ha⟩:=IV h
 rw[e]at d
 have hr:=EL fm d ha hv
 obtain⟨h1,h2⟩:=Fg hc
 have hx:=Dr.ext d
 have hl:jb s i (dn s i)=.tok ⟨1,n,i⟩ (i+(c::w).length):=by
  rw[Dr.byte d];unfold jb
  rw[h1,h2,hc,zW (by decide),zW (by decide),zX rfl,hr,hx,<-e]
 rw[e]
 exact tR.one (Dr.lt d) hl (by simp)
theorem Um{c:UInt8}{w:List UInt8}(ha:∀z∈c::w,isDigit ((z:UInt8).toNat:Nat)=true):Ch (c::w) [(2,bs (c::w))]:=fun s i v d hv=>by
 have hd:∀z∈v.head?,isDigit ((z:UInt8).toNat:Nat)=false:=fun z hz=>by
  have:=hv z hz;unfold fm at this;simp only[Bool.or_eq_false_iff]at this;exact this.2
 have hr:=EL isDigit d ha hd
 obtain⟨h1,h2,h3⟩:=G_ (ha c (by simp))
 have hx:=Dr.ext d
 have kZ:(decide (i+(c::w).length<s.size)&&ed (dn s (i+(c::w).length)))=false:=by
  have d2:=d.dY
  cases v with
  |nil=>have:=d2.size;rw[List.length_nil,Nat.add_zero]at this;rw[zK (by omega),Bool.false_and]
  |cons z v=>
   rw[Dr.byte d2]
   have:=hv z (by simp)
   unfold fm at this;simp only[Bool.or_eq_false_iff]at this
   rw[this.1,Bool.and_false]
 have hl:jb s i (dn s i)=.tok ⟨2,bs (c::w),i⟩ (i+(c::w).length):=by
  rw[Dr.byte d];unfold jb
  rw[h1,h2,h3,ha c (by simp),zW (by decide),zW (by decide),zW (by decide),zX rfl,hr,kZ,zW (by decide),hx]
 exact tR.one (Dr.lt d) hl (by simp)
end
theorem uK:∀(k n:Nat),n<k->∀z∈Lib.decDigits n,isDigit ((z:UInt8).toNat:Nat)=true
 |0,_,h=>by omega
 |k+1,n,h=>by
  intro z hz
  have one:∀m,m<10->isDigit ((UInt8.ofNat (48+m)).toNat:Nat)=true:=by decide
  by_cases lq:n<10
  ·rw[Lib.decDigits_one lq]at hz
   simp only[List.mem_singleton]at hz
   subst hz
   exact one n lq
  ·rw[Lib.decDigits,dif_neg lq]at hz
   rcases List.mem_append.1 hz with hz |hz
   ·exact uK k (n/10) (by omega) z hz
   ·simp only[List.mem_singleton]at hz
    subst hz
    exact one _ (Nat.mod_lt _ (by decide))
theorem Mn(n:Nat):Lib.decDigits n≠[]:=by
 rw[Lib.decDigits]
 split
 ·simp
 ·simp
theorem Wo(n:Nat):Ch (Lib.decDigits n) [(2,bs (Lib.decDigits n))]:=by
 have h:=uK (n+1) n (by omega)
 have hn:=Mn n
 cases e:Lib.decDigits n with
 |nil=>exact absurd e hn
 |cons c w=>rw[e]at h;exact Um h
theorem HH{z:Int}(h:0<=z):Ch (Lib.itoa z) [(2,bs (Lib.itoa z))]:=by
 obtain⟨n,rfl⟩:∃n:Nat,z=n:=⟨z.toNat,by omega⟩
 rw[Lib.itoa_nonneg]
 exact Wo n
theorem CH:∀(l:List UInt8)(c:UInt8)(n:Int),il (l++[c]) n=match il l n with |none=>none |some m=>if m*10+((c.toNat:Int)-48) > 9007199254740991 then none else some (m*10+((c.toNat:Int)-48))
 |[],c,n=>by simp[il]
 |d::l,c,n=>by
  rw[List.cons_append,il,il]
  split
  ·rfl
  ·exact CH l c _
theorem CG:∀(k n:Nat),n<k->n<=9007199254740991->il (Lib.decDigits n) 0=some (n:Int)
 |0,_,h,_=>by omega
 |k+1,n,h,hm=>by
  have one:∀m,m<10->((UInt8.ofNat (48+m)).toNat:Int)=48+m:=by decide
  by_cases lq:n<10
  ·rw[Lib.decDigits_one lq]
   simp only[il,one n lq]
   rw[zW (by omega)]
   congr 1;omega
  ·rw[Lib.decDigits,dif_neg lq,CH,CG k (n/10) (by omega) (by omega)]
   simp only[one _ (Nat.mod_lt n (by decide:10 > 0))]
   rw[zW (by omega)]
   congr 1;omega
theorem tU{z:Int}(h:0<=z)(h1:z<=9007199254740991):il (Lib.itoa z) 0=some z:=by
 obtain⟨n,rfl⟩:∃n:Nat,z=n:=⟨z.toNat,by omega⟩
 rw[Lib.itoa_nonneg]
 exact CG (n+1) n (by omega) (by omega)
end
section
open Go.Ab
inductive xD (r:Row):Prop
 |ao:(r.kind=aS\/r.kind=bz)->fU r.name=true->0<=r.num->r.num<=9007199254740991->r.args=[]->r.rows=0->xD r
 |gate:r.kind=aN->fU r.name=true->r.num=0->(∀g∈r.args,gG true g=true)->0<=r.rows->xD r
 |vg:r.kind=aG->r.name=ByteArray.empty->0<=r.num->r.num<=9007199254740991->r.args=[]->0<=r.rows->xD r
 |cond:r.kind=cz->fU r.name=true->0<=r.num->r.num<=9007199254740991->r.args=[]->0<=r.rows->xD r
 |ur:r.kind=aQ->r.name=ByteArray.empty->r.num=0->r.args.length=2->(∀g∈r.args,gG false g=true)->r.rows=0->xD r
 |reset:r.kind=bB->r.name=ByteArray.empty->r.num=0->r.args.length=1->(∀g∈r.args,gG false g=true)->r.rows=0->xD r
 |vf:r.kind=bw->fU r.name=true->r.num=0->(∀g∈r.args,gG false g=true)->r.rows=0->xD r
theorem Co{r:Row}(h:mG r=true):xD r:=by
 unfold mG kf eD at h
 by_cases k1:r.kind=aS\/r.kind=bz
 ·have:¬r.kind=aN:=by rcases k1 with k |k<;>rw[k]<;>decide
  simp[k1,iC,lV,this]at h
  exact .ao k1 (by simpa using h.1.1.1.1.1) h.1.1.1.1.2.1 h.1.1.1.1.2.2 h.1.1.1.2 h.1.1.2
 by_cases k2:r.kind=aN
 ·simp[k2,aS,bz,aN,iC]at h
  exact .gate k2 (by simpa using h.1.1.1) h.1.1.2 h.1.2 h.2
 by_cases k3:r.kind=aG
 ·simp[k3,aS,bz,aN,aG,iC,lV]at h
  exact .vg k3 h.1.1.1.1.2 h.1.1.1.2.1 h.1.1.1.2.2 h.1.1.2 h.2
 by_cases k4:r.kind=cz
 ·simp[k4,aS,bz,aN,aG,cz,iC,lV]at h
  exact .cond k4 (by simpa using h.1.1.1.1) h.1.1.1.2.1 h.1.1.1.2.2 h.1.1.2 h.2
 by_cases k5:r.kind=aQ
 ·simp[k5,aS,bz,aN,aG,cz,aQ,iC]at h
  exact .ur k5 h.1.1.1.1.1.2 h.1.1.1.1.2 (by have:=h.1.1.1.2;omega) h.1.2 h.1.1.2
 by_cases k6:r.kind=bB
 ·simp[k6,aS,bz,aN,aG,cz,aQ,bB,iC]at h
  exact .reset k6 h.1.1.1.1.1.2 h.1.1.1.1.2 (by have:=h.1.1.1.2;omega) h.1.2 h.1.1.2
 by_cases k7:r.kind=bw
 ·simp[k7,aS,bz,aN,aG,cz,aQ,bB,bw,iC]at h
  exact .vf k7 h.1.1.1.1 h.1.1.1.2 h.1.2 h.1.1.2
 simp[k1,k2,k3,k4,k5,k6,k7,iC]at h
def td(g:Arg):List db:=(1,g.name)::(if g.index<0 then[] else[eE ub,(2,bs (Lib.itoa g.index)),eE zp])
def sM(r:Row):List db:=if r.kind=bw then[(1,r.name)] else if r.name=ByteArray.empty then[(1,r.kind)] else[(1,r.kind),(1,r.name)]
def xT(r:Row):List db:=sM r++(if ld r.kind then[(2,bs (Lib.itoa r.num))] else[])++r.args.flatMap td
def q_(rows:List Row):List db:=
 match rows with
 |[]=>[]
 |r::rest=>xT r++(if fu r.kind then eE kM::(q_ (rest.take r.rows.toNat)++[eE jw]) else[eE l_])++q_ (rest.drop r.rows.toNat)
termination_by rows.length
decreasing_by all_goals (simp only[yA,List.length_drop,List.length_cons];omega)
theorem CJ{r:Row}{rest:List Row}:q_ (r::rest)=xT r++(if fu r.kind then eE kM::(q_ (rest.take r.rows.toNat)++[eE jw]) else[eE l_])++q_ (rest.drop r.rows.toNat):=by rw[q_]
theorem EE:q_ []=[]:=by rw[q_]
section
variable {u:List UInt8} {a:List db}
theorem WH:ik [32] []:=Gt (by decide)
theorem WI:ik [10] []:=Gt (by decide)
theorem aaA:ik [123] [eE kM]:=tp (by decide) (by decide)
theorem aaz:ik [125] [eE jw]:=tp (by decide) (by decide)
theorem s59:ik [59] [eE l_]:=tp (by decide) (by decide)
theorem s91:ik [91] [eE ub]:=tp (by decide) (by decide)
theorem s93:ik [93] [eE zp]:=tp (by decide) (by decide)
theorem pc{c:UInt8}(h:fm (c.toNat:Nat)=false):Nx (c::u):=fun z hz=>by
 simp only[List.head?_cons,Option.mem_def,zQ]at hz
 subst hz;exact h
theorem KW:Nx []:=fun z hz=>by cases hz
theorem sp(h:Ch u a):Ch (32::u) a:=WH.ch h
theorem qH{s:ByteArray}(h:fU s=true):jh s=true:=by
 unfold fU at h;simp only[yC]at h;exact h.1
theorem WS{b:Bool}{g:Arg}(h:gG b g=true):Ch (ta g) (td g):=by
 unfold gG at h
 simp only[yC,decide_eq_true_eq]at h
 unfold ta td
 by_cases hi:g.index<0
 ·rw[zX hi,zX hi,List.append_nil]
  exact qQ (qH h.1.1.1)
 ·rw[zW hi,zW hi]
  have h1:ik (91::(Lib.itoa g.index++[93])) [eE ub,(2,bs (Lib.itoa g.index)),eE zp]:=s91.dY ((HH (by omega)).end s93 (pc (by decide)) (by simp))
  exact(Ch.dY (qQ (qH h.1.1.1)) h1.to (pc (by decide)))
theorem Io{b:Bool}:∀{l:List Arg},(∀g∈l,gG b g=true)->Ch (mq l) (l.flatMap td)/\Nx (mq l)
 |[],_=>⟨ik.nil.to,KW⟩
 |g::l,h=>by
  have h1:=sp (WS (h g (by simp)))
  have⟨h2,h3⟩:=Io (l:=l) (fun z hz=>h z (by simp[hz]))
  have e:mq (g::l)=(32::ta g)++mq l:=by simp[mq]
  rw[e,List.flatMap_cons]
  exact⟨h1.dY h2 h3,pc (by decide)⟩
end
end
section
open Go.Ab
theorem nB{k:ByteArray}(h:k=aS\/k=bz\/k=aN\/k=aG\/k=cz\/k=aQ\/k=bB):jh k=true/\k≠bw:=by
 rcases h with h |h |h |h |h |h |h<;>subst h
 all_goals exact⟨by decide +kernel,by decide⟩
theorem NB{b:Bool}{z:Int}(h:b=true->0<=z):Ch (if b then 32::Lib.itoa z else[]) (if b then[(2,bs (Lib.itoa z))] else[])/\Nx (if b then 32::Lib.itoa z else[]):=by
 cases b with
 |false=>exact⟨ik.nil.to,KW⟩
 |true=>exact⟨sp (HH (h rfl)),pc (by decide)⟩
theorem Sr{r:Row}(hf:mG r=true):Ch (kh r) (xT r):=by
 unfold kh xT
 have hn:=Cn hf
 have hk:=Co hf
 have ha:∃b,∀g∈r.args,gG b g=true:=by
  cases hk with
  |ao _ _ _ _ a _=>exact⟨true,by rw[a];simp⟩
  |gate _ _ _ a _=>exact⟨_,a⟩
  |vg _ _ _ _ a _=>exact⟨true,by rw[a];simp⟩
  |cond _ _ _ _ a _=>exact⟨true,by rw[a];simp⟩
  |ur _ _ _ _ a _=>exact⟨_,a⟩
  |reset _ _ _ _ a _=>exact⟨_,a⟩
  |vf _ _ _ a _=>exact⟨_,a⟩
 obtain⟨b,ha⟩:=ha
 obtain⟨a1,a2⟩:=Io ha
 obtain⟨n1,n2⟩:=NB (b:=ld r.kind) (z:=r.num) (fun _=>hn.1)
 have hb:Ch (nf r) (sM r):=by
  have named:fU r.name=true->jh r.kind=true->r.kind≠bw->Ch (nf r) (sM r):=fun h1 h2 h3=>by
   unfold nf sM
   rw[zW h3,zW h3,zW (oY h1),zW (oY h1)]
   exact(qQ h2).dY (sp (qQ (qH h1))) (pc (by decide))
  have bare:r.name=ByteArray.empty->jh r.kind=true->r.kind≠bw->Ch (nf r) (sM r):=fun h1 h2 h3=>by
   unfold nf sM
   rw[zW h3,zW h3,zX h1,zX h1]
   exact qQ h2
  cases hk with
  |ao k a _ _ _ _=>obtain⟨w1,w2⟩:=nB (k:=r.kind) (by rcases k with k |k<;>simp[k]);exact named a w1 w2
  |gate k a _ _ _=>obtain⟨w1,w2⟩:=nB (k:=r.kind) (by simp[k]);exact named a w1 w2
  |vg k a _ _ _ _=>obtain⟨w1,w2⟩:=nB (k:=r.kind) (by simp[k]);exact bare a w1 w2
  |cond k a _ _ _ _=>obtain⟨w1,w2⟩:=nB (k:=r.kind) (by simp[k]);exact named a w1 w2
  |ur k a _ _ _ _=>obtain⟨w1,w2⟩:=nB (k:=r.kind) (by simp[k]);exact bare a w1 w2
  |reset k a _ _ _ _=>obtain⟨w1,w2⟩:=nB (k:=r.kind) (by simp[k]);exact bare a w1 w2
  |vf k a _ _ _=>
   unfold nf sM
   rw[zX k,zX k]
   exact qQ (qH a)
 exact(hb.dY n1 n2).dY a1 a2
theorem Lj:∀{ind:List UInt8},(∀c∈ind,c=32)->ik ind []
 |[],_=>ik.nil
 |c::l,h=>by
  have:c=32:=h c (by simp)
  subst this
  exact WH.dY (Lj (ind:=l) (fun z hz=>h z (by simp[hz])))
theorem Rp(n:Nat):∀{d:Nat}{ind:List UInt8}{rows:List Row},rows.length<n->di d rows=true->(∀c∈ind,c=32)->ik (fK ind rows) (q_ rows):=by
 induction n with
 |zero=>intro d ind rows h;omega
 |succ n ih=>
  intro d ind rows hn cA hi
  cases rows with
  |nil=>rw[vY,EE];exact ik.nil
  |cons r rest=>
   obtain⟨_,lR,_,_,eL,_,mj⟩:=xM cA
   simp only[List.length_cons]at hn
   have aJ:(rest.take r.rows.toNat).length<n:=by rw[yA];omega
   have Dl:(rest.drop r.rows.toNat).length<n:=by rw[List.length_drop];omega
   have h1:=Sr lR
   have h2:=ih Dl mj hi
   have hI:=Lj hi
   rw[tW,CJ]
   cases hb:fu r.kind with
   |false=>
    simp only[zE,if_false]
    have e:ik ([59]++[10]) ([eE l_]++[]):=s59.dY WI
    have h4:=ik.dY (Ch.end (hI.ch h1) e (pc (by decide)) (by simp)) h2
    simpa[List.append_assoc] using h4
   |true=>
    simp only[zV]
    have h3:=ih aJ eL (ind:=ind++[32,32]) (fun c hc=>by
     rcases List.mem_append.1 hc with h |h
     ·exact hi c h
     ·simpa using h)
    have e:ik ([32]++([123]++[10])) ([]++([eE kM]++[])):=WH.dY (aaA.dY WI)
    have e2:ik ([125]++[10]) ([eE jw]++[]):=aaz.dY WI
    have h4:=ik.dY (ik.dY (ik.dY (ik.dY (Ch.end (hI.ch h1) e (pc (by decide)) (by simp)) h3) hI) e2) h2
    simpa[List.append_assoc] using h4
theorem J_{rows:List Row}(cA:di 0 rows=true):∃L,fB (bs (fK [] rows)) 0 []=.ok L/\L.map kt=q_ rows:=by
 obtain⟨T,hT,hr⟩:=Rp _ (Nat.lt_succ_self _) cA (ind:=[]) (by simp) (s:=bs (fK [] rows)) (i:=0) (v:=[]) ⟨by simp,by omega⟩
 refine⟨T,?_,hT⟩
 have h1:=(hr []).scan
 rw[h1,fB,dif_neg (by rw[xZ];omega)]
 rfl
theorem kN{s:ByteArray}(h:fU s=true):pj (1,s):=by
 unfold fU at h
 simp only[yC,Bool.not_eq_true']at h
 exact⟨rfl,h.2⟩
theorem st{z:Int}(h:0<=z)(h1:z<=9007199254740991):Cf (2,bs (Lib.itoa z)) z:=⟨rfl,tU h h1⟩
theorem El{b:Bool}{g:Arg}(h:gG b g=true):ti (td g) g:=by
 unfold gG at h
 simp only[yC,decide_eq_true_eq]at h
 obtain⟨nm,ix⟩:=g
 unfold td
 simp only at h ⊢
 by_cases hi:ix<0
 ·rw[zX hi]
  obtain rfl:ix=-1:=by omega
  exact .plain (x:=(1,nm)) (kN h.1.1.1)
 ·rw[zW hi]
  exact .ix (x:=(1,nm)) (kN h.1.1.1) (st (by omega) h.1.2)
theorem MA{b:Bool}:∀{l:List Arg},(∀g∈l,gG b g=true)->yf (l.flatMap td) l
 |[],_=>.nil
 |g::l,h=>by
  rw[List.flatMap_cons]
  exact .cons (El (h g (by simp))) (MA (fun z hz=>h z (by simp[hz])))
theorem HE:∀{l:List Arg},(∀g∈l,gG true g=true)->l.flatMap td=l.map (fun g=>((1:Int),g.name))/\(l.map (fun g=>((1:Int),g.name))).map (fun z=>(⟨z.2,-1⟩:Arg))=l/\∀z∈l.map (fun g=>((1:Int),g.name)),pj z
 |[],_=>⟨rfl,rfl,by simp⟩
 |g::l,h=>by
  obtain⟨h1,h2,h3⟩:=HE (l:=l) (fun z hz=>h z (by simp[hz]))
  have h0:=h g (by simp)
  unfold gG at h0
  simp only[yC,decide_eq_true_eq,zS,Bool.false_or]at h0
  obtain⟨nm,ix⟩:=g
  simp only at h0
  obtain rfl:=h0.2
  refine⟨by rw[List.flatMap_cons,h1];rfl,by simp only[List.map_cons]at h2 ⊢;rw[h2],?_⟩
  intro z hz
  rw[List.map_cons]at hz
  rcases List.mem_cons.1 hz with hz |hz
  ·subst hz;exact kN h0.1.1.1
  ·exact h3 z hz
theorem Ss{r:Row}(hf:mG r=true):Hd (xT r) { r with rows:=0,place:=0 } (fu r.kind):=by
 obtain⟨kd,nm,ar,nu,YF,pl⟩:=r
 have hk:=Co hf
 unfold xT sM fu
 cases hk with
 |ao k a b c d e=>
  simp only at k a b c d e
  subst d
  have hu:kd≠bw:=by rcases k with k |k<;>rw[k]<;>decide
  have hn:ld kd=true:=by rcases k with k |k<;>rw[k]<;>decide
  have hb:(decide (kd=aN)||decide (kd=aG)||decide (kd=cz))=false:=by rcases k with k |k<;>rw[k]<;>decide
  simp only[hu,oY a,hn,zV,if_false,List.flatMap_nil,List.append_nil,hb]
  exact .ao (x:=(1,kd)) (y:=(1,nm)) rfl k (kN a) (st b c)
 |gate k a b c d=>
  simp only at k a b c d
  subst k;subst b
  have h1:=HE c
  have hb:(decide (aN=aN)||decide (aN=aG)||decide (aN=cz))=true:=by decide
  simp only[show aN≠bw by decide,oY a,show ld aN=false by decide,if_false,zE,List.append_nil,hb,h1.1]
  have:=Hd.gate (x:=(1,aN)) (y:=(1,nm)) rfl rfl (kN a) h1.2.2
  rw[h1.2.1]at this
  exact this
 |vg k a b c d e=>
  simp only at k a b c d e
  subst k;subst d;subst a
  have hb:(decide (aG=aN)||decide (aG=aG)||decide (aG=cz))=true:=by decide
  simp only[show aG≠bw by decide,show ld aG=true by decide,zV,if_false,List.flatMap_nil,List.append_nil,hb]
  exact .vg (x:=(1,aG)) rfl rfl (st b c)
 |cond k a b c d e=>
  simp only at k a b c d e
  subst k;subst d
  have hb:(decide (cz=aN)||decide (cz=aG)||decide (cz=cz))=true:=by decide
  simp only[show cz≠bw by decide,oY a,show ld cz=true by decide,zV,if_false,List.flatMap_nil,List.append_nil,hb]
  exact .cond (x:=(1,cz)) (y:=(1,nm)) rfl rfl (kN a) (st b c)
 |ur k a b c d e=>
  simp only at k a b c d e
  subst k;subst a;subst b
  have hb:(decide (aQ=aN)||decide (aQ=aG)||decide (aQ=cz))=false:=by decide
  simp only[show aQ≠bw by decide,show ld aQ=false by decide,zV,if_false,zE,List.append_nil,hb]
  match ar,c with
  |[g1,g2],_=>
   simp only[List.flatMap_cons,List.flatMap_nil,List.append_nil]
   exact .ur (x:=(1,aQ)) (a:=td g1) (b:=td g2) rfl rfl (El (d g1 (by simp))) (El (d g2 (by simp)))
 |reset k a b c d e=>
  simp only at k a b c d e
  subst k;subst a;subst b
  have hb:(decide (bB=aN)||decide (bB=aG)||decide (bB=cz))=false:=by decide
  simp only[show bB≠bw by decide,show ld bB=false by decide,zV,if_false,zE,List.append_nil,hb]
  match ar,c with
  |[g1],_=>
   simp only[List.flatMap_cons,List.flatMap_nil,List.append_nil]
   exact .reset (x:=(1,bB)) rfl rfl (El (d g1 (by simp)))
 |vf k a b c d=>
  simp only at k a b c d
  subst k;subst b
  have hb:(decide (bw=aN)||decide (bw=aG)||decide (bw=cz))=false:=by decide
  simp only[show ld bw=false by decide,zV,if_false,zE,List.append_nil,hb]
  exact .vf (x:=(1,nm)) (kN a) (MA c)
theorem Mr{r:Row}(hf:mG r=true)(hb:fu r.kind=false):r.rows=0:=by
 have hk:=Co hf
 unfold fu at hb
 cases hk with
 |ao _ _ _ _ _ e=>exact e
 |gate k=>rw[k]at hb;exact absurd hb (by decide)
 |vg k=>rw[k]at hb;exact absurd hb (by decide)
 |cond k=>rw[k]at hb;exact absurd hb (by decide)
 |ur _ _ _ _ _ e=>exact e
 |reset _ _ _ _ _ e=>exact e
 |vf _ _ _ _ e=>exact e
theorem Xq(n:Nat):∀{d:Nat}{rows:List Row},rows.length<n->d<=32->di d rows=true->∃rb,Sq (32-d) (q_ rows) rb/\rb.map (·.1)=rows.map er:=by
 induction n with
 |zero=>intro d rows h;omega
 |succ n ih=>
  intro d rows hn hd cA
  cases rows with
  |nil=>rw[EE];exact⟨[],.nil,rfl⟩
  |cons r rest=>
   obtain⟨_,lR,h0,hle,eL,Bs,mj⟩:=xM cA
   simp only[List.length_cons]at hn
   have aJ:(rest.take r.rows.toNat).length<n:=by rw[yA];omega
   have Dl:(rest.drop r.rows.toNat).length<n:=by rw[List.length_drop];omega
   have hH:=Ss lR
   obtain⟨rc,hc,ec⟩:=ih Dl hd mj
   rw[CJ]
   cases hb:fu r.kind with
   |false=>
    rw[hb]at hH
    have hz:=Mr lR hb
    have h1:=Sq.leaf hH hc
    refine⟨_,by simpa using h1,?_⟩
    rw[List.map_cons,E_,ec]
    have e0:r.rows.toNat=0:=by omega
    rw[e0,List.drop_zero,List.map_cons]
    congr 1
    unfold er
    obtain⟨kd,nm,ar,nu,YF,pl⟩:=r
    simp only at hz
    rw[hz]
   |true=>
    rw[hb]at hH
    have tL:=Bs hb
    obtain⟨rb,hbq,eb⟩:=ih aJ (by omega) eL
    have e1:32-d=32-(d+1)+1:=by omega
    rw[e1]at hc ⊢
    have h1:=Sq.held hH hbq hc
    refine⟨_,by simpa using h1,?_⟩
    have hl:rb.length=r.rows.toNat:=by
     have:=congrArg List.length eb
     simp at this;omega
    rw[List.map_cons,List.map_append,E_,E_,eb,ec,<-List.map_append,List.take_append_drop,List.map_cons]
    congr 1
    unfold er
    obtain⟨kd,nm,ar,nu,YF,pl⟩:=r
    simp only at hl h0 ⊢
    congr 1
    omega
theorem IH{rows:List Row}(cA:di 0 rows=true)(hs:(fK [] rows).length<=65536):∃new,kj (bs (fK [] rows))=.ok new/\new.map er=rows.map er:=by
 obtain⟨L,h1,h2⟩:=J_ cA
 obtain⟨rb,h3,h4⟩:=Xq _ (Nat.lt_succ_self _) (by omega) cA
 obtain⟨new,h5,h6⟩:=(Rs (L:=L) (en:=(bs (fK [] rows)).size) h3).2 rfl 0 (L.length+1) [] (by rw[List.drop_zero];exact h2) (by have:=congrArg List.length h2;simp at this;omega)
 refine⟨new,?_,by rw[h6,h4]⟩
 unfold kj
 rw[zW (by rw[xZ];omega),h1]
 simpa using h5
end
end Go.Proofs.YtjehibknlmehmaaGreatDoor
