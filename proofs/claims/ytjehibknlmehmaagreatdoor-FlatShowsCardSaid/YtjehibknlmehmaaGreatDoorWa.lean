/- The parser in plain Lean; contracts of the reader of package parse, and of parse.Parse. No condition. -/
import Derived.Test.YtjehibknlmehmaaGreatDoorGp
import Derived.Test.YtjehibknlmehmaaGreatDoorVa
set_option maxRecDepth 100000
namespace Go.Proofs.YtjehibknlmehmaaGreatDoor
section
open Go.Ab
structure Arg where
 name:ByteArray
 index:Int
structure Row where
 kind:ByteArray
 name:ByteArray
 args:List Arg
 num:Int
 rows:Int
 place:Int
abbrev jV(α:Type):=Except (Int×Int) α
abbrev aX:ByteArray:=⟨#[113,117,98,105,116,115]⟩
abbrev bK:ByteArray:=⟨#[98,105,116,115]⟩
abbrev aY:ByteArray:=⟨#[103,97,116,101]⟩
abbrev aK:ByteArray:=⟨#[114,101,112,101,97,116]⟩
abbrev c9:ByteArray:=⟨#[105,102]⟩
abbrev be:ByteArray:=⟨#[109,101,97,115,117,114,101]⟩
abbrev ch:ByteArray:=⟨#[114,101,115,101,116]⟩
abbrev bP:ByteArray:=⟨#[117,115,101]⟩
abbrev dG:ByteArray:=⟨#[]⟩
abbrev Ih:ByteArray:=⟨#[59]⟩
abbrev Ii:ByteArray:=⟨#[123]⟩
abbrev O4:ByteArray:=⟨#[125]⟩
abbrev S1:ByteArray:=⟨#[91]⟩
abbrev My:ByteArray:=⟨#[93]⟩
def BV(s:ByteArray):Bool:=decide (s=aX)||decide (s=bK)||decide (s=aY)||decide (s=aK)||decide (s=c9)||decide (s=be)||decide (s=ch)
section
variable (L:List Tok) (en:Int)
def gX(p:Nat)(w:Bool):jV Tok:=
 match L[p]? with
 |none=>.error (en,101)
 |some t=>if w then .ok t else .error (t.at_,100)
def mJ(p:Nat)(s:ByteArray):Bool:=match L[p]? with |some t=>t.kind==3&&decide (t.text=s) |none=>false
def nh(p:Nat):Bool:=match L[p]? with |some t=>t.kind==1&&!BV t.text |none=>false
def jE(p:Nat):Bool:=match L[p]? with |some t=>t.kind==2 |none=>false
def iC(p:Nat):Bool:=match L[p]? with |some t=>t.kind==1 |none=>false
def fW(p:Nat):jV ByteArray:=(gX L en p (nh L p)).map (·.text)
def mF(p:Nat)(s:ByteArray):jV Tok:=gX L en p (mJ L p s)
def so:List UInt8->Int->Option Int
 |[],n=>some n
 |c::l,n=>if n*10+((c.toNat:Int)-48) > 9007199254740991 then none else so l (n*10+((c.toNat:Int)-48))
def eI(p:Nat):jV Int:=
 match gX L en p (jE L p) with
 |.error e=>.error e
 |.ok t=>match so t.text.data.toList 0 with
  |some n=>.ok n
  |none=>.error (t.at_,1)
def jX(p:Nat):jV (Arg×Nat):=
 match fW L en p with
 |.error e=>.error e
 |.ok nm=>
  if mJ L (p+1) S1 then
   match eI L en (p+2) with
   |.error e=>.error e
   |.ok n=>match mF L en (p+3) My with
    |.error e=>.error e
    |.ok _=>.ok (⟨nm,n⟩,p+4)
  else .ok (⟨nm,-1⟩,p+1)
def mg:Nat->Nat->List Arg->jV (List Arg×Nat)
 |0,_,_=>.error (0,-1)
 |n+1,p,acc=>if nh L p then
   match fW L en p with
   |.error e=>.error e
   |.ok nm=>mg n (p+1) (acc++[⟨nm,-1⟩])
  else .ok (acc,p)
def oL:Nat->Nat->List Arg->jV (List Arg×Nat)
 |0,_,_=>.error (0,-1)
 |n+1,p,acc=>if nh L p then
   match jX L en p with
   |.error e=>.error e
   |.ok (a,p')=>oL n p' (acc++[a])
  else .ok (acc,p)
def qX(step:Nat->jV (Nat×List Row)):Nat->Nat->List Row->jV (Nat×List Row)
 |0,_,_=>.error (0,-1)
 |n+1,p,acc=>if mJ L p O4 then .ok (p,acc) else
   match step p with
   |.error e=>.error e
   |.ok (p',new)=>qX step n p' (acc++new)
def FT(k:Nat)(step:Nat->jV (Nat×List Row))(p:Nat):jV (Nat×List Row):=
 match mF L en p Ii with
 |.error e=>.error e
 |.ok t=>match k with
  |0=>.error (t.at_,102)
  |_=>match qX L step (L.length+1) (p+1) [] with
   |.error e=>.error e
   |.ok (p',rows)=>.ok (p'+1,rows)
def kq(p:Nat)(row:Row):jV (Nat×List Row):=
 match mF L en p Ih with
 |.error e=>.error e
 |.ok _=>.ok (p+1,[row])
def mM(k:Nat)(step:Nat->jV (Nat×List Row))(p:Nat)(row:Row):jV (Nat×List Row):=
 match FT L en k step p with
 |.error e=>.error e
 |.ok (p',rows)=>.ok (p',{ row with rows:=rows.length }::rows)
def lH:Nat->Nat->jV (Nat×List Row)
 |k,p=>
  let step:Nat->jV (Nat×List Row):=match k with |0=>fun _=>.error (0,-1) |k'+1=>lH k'
  match gX L en p (iC L p) with
  |.error e=>.error e
  |.ok t=>
   if t.text=aX\/t.text=bK then
    match fW L en (p+1) with
    |.error e=>.error e
    |.ok nm=>match eI L en (p+2) with
     |.error e=>.error e
     |.ok n=>kq L en (p+3) ⟨t.text,nm,[],n,0,t.at_⟩
   else if t.text=aY then
    match fW L en (p+1) with
    |.error e=>.error e
    |.ok nm=>match mg L en (L.length+1) (p+2) [] with
     |.error e=>.error e
     |.ok (l,p')=>mM L en k step p' ⟨t.text,nm,l,0,0,t.at_⟩
   else if t.text=aK then
    match eI L en (p+1) with
    |.error e=>.error e
    |.ok n=>mM L en k step (p+2) ⟨t.text,dG,[],n,0,t.at_⟩
   else if t.text=c9 then
    match fW L en (p+1) with
    |.error e=>.error e
    |.ok nm=>match eI L en (p+2) with
     |.error e=>.error e
     |.ok n=>mM L en k step (p+3) ⟨t.text,nm,[],n,0,t.at_⟩
   else if t.text=be then
    match jX L en (p+1) with
    |.error e=>.error e
    |.ok (a,p1)=>match jX L en p1 with
     |.error e=>.error e
     |.ok (b,p2)=>kq L en p2 ⟨t.text,dG,[a,b],0,0,t.at_⟩
   else if t.text=ch then
    match jX L en (p+1) with
    |.error e=>.error e
    |.ok (a,p1)=>kq L en p1 ⟨t.text,dG,[a],0,0,t.at_⟩
   else
    match oL L en (L.length+1) (p+1) [] with
    |.error e=>.error e
    |.ok (l,p')=>kq L en p' ⟨bP,t.text,l,0,0,t.at_⟩
def vK:Nat->Nat->List Row->jV (List Row)
 |0,_,_=>.error (0,-1)
 |n+1,p,acc=>if p<L.length then
   match lH L en 32 p with
   |.error e=>.error e
   |.ok (p',new)=>vK n p' (acc++new)
  else .ok acc
end
end
section
open Go.Ab
section
variable {L:List Tok} {en:Int}
def nA(L:List Tok)(en:Int)(k:Nat):Nat->jV (Nat×List Row):=match k with |0=>fun _=>.error (0,-1) |k'+1=>lH L en k'
def xm(L:List Tok)(en:Int)(k:Nat)(step:Nat->jV (Nat×List Row))(p:Nat)(t:Tok):jV (Nat×List Row):=
 if t.text=aX\/t.text=bK then
  match fW L en (p+1) with
  |.error e=>.error e
  |.ok nm=>match eI L en (p+2) with
   |.error e=>.error e
   |.ok n=>kq L en (p+3) ⟨t.text,nm,[],n,0,t.at_⟩
 else if t.text=aY then
  match fW L en (p+1) with
  |.error e=>.error e
  |.ok nm=>match mg L en (L.length+1) (p+2) [] with
   |.error e=>.error e
   |.ok (l,p')=>mM L en k step p' ⟨t.text,nm,l,0,0,t.at_⟩
 else if t.text=aK then
  match eI L en (p+1) with
  |.error e=>.error e
  |.ok n=>mM L en k step (p+2) ⟨t.text,dG,[],n,0,t.at_⟩
 else if t.text=c9 then
  match fW L en (p+1) with
  |.error e=>.error e
  |.ok nm=>match eI L en (p+2) with
   |.error e=>.error e
   |.ok n=>mM L en k step (p+3) ⟨t.text,nm,[],n,0,t.at_⟩
 else if t.text=be then
  match jX L en (p+1) with
  |.error e=>.error e
  |.ok (a,p1)=>match jX L en p1 with
   |.error e=>.error e
   |.ok (b,p2)=>kq L en p2 ⟨t.text,dG,[a,b],0,0,t.at_⟩
 else if t.text=ch then
  match jX L en (p+1) with
  |.error e=>.error e
  |.ok (a,p1)=>kq L en p1 ⟨t.text,dG,[a],0,0,t.at_⟩
 else
  match oL L en (L.length+1) (p+1) [] with
  |.error e=>.error e
  |.ok (l,p')=>kq L en p' ⟨bP,t.text,l,0,0,t.at_⟩
theorem D_(k p:Nat):lH L en k p=(match gX L en p (iC L p) with |.error e=>.error e |.ok t=>xm L en k (nA L en k) p t):=by
 cases k<;>rfl
theorem rJ{p:Nat}{w:Bool}{t:Tok}(h:gX L en p w=.ok t):p<L.length/\L[p]?=some t/\w=true:=by
 unfold gX at h
 cases hg:L[p]? with
 |none=>rw[hg]at h;cases h
 |some t'=>
  rw[hg]at h
  cases w
  ·cases h
  ·cases h;exact⟨(zM.1 hg).1,rfl,rfl⟩
theorem rK{p:Nat}{s:ByteArray}(h:fW L en p=.ok s):p<L.length/\∃t,L[p]?=some t/\t.text=s/\nh L p=true:=by
 unfold fW at h
 cases hn:gX L en p (nh L p) with
 |error e=>rw[hn]at h;cases h
 |ok t=>
  rw[hn]at h;cases h
  have:=rJ hn
  exact⟨this.1,t,this.2.1,rfl,this.2.2⟩
theorem yU{p:Nat}{s:ByteArray}{t:Tok}(h:mF L en p s=.ok t):p<L.length:=(rJ h).1
theorem AI{p:Nat}{n:Int}(h:eI L en p=.ok n):p<L.length:=by
 unfold eI at h
 cases hn:gX L en p (jE L p) with
 |error e=>rw[hn]at h;cases h
 |ok t=>exact(rJ hn).1
theorem ry{p p':Nat}{a:Arg}(h:jX L en p=.ok (a,p')):p<p'/\p'<=L.length:=by
 unfold jX at h
 cases hn:fW L en p with
 |error e=>rw[hn]at h;cases h
 |ok nm=>
  have h1:=(rK hn).1
  rw[hn]at h
  simp only at h
  split at h
  ·cases hu:eI L en (p+2) with
   |error e=>rw[hu]at h;cases h
   |ok n=>
    rw[hu]at h
    cases hs:mF L en (p+3) My with
    |error e=>rw[hs]at h;cases h
    |ok t=>
     rw[hs]at h;cases h
     have:=yU hs
     omega
  ·cases h;omega
theorem CL:∀(n p:Nat)(acc:List Arg){l:List Arg}{p':Nat},p<=L.length->mg L en n p acc=.ok (l,p')->p<=p'/\p'<=L.length/\l.length+p=acc.length+p'
 |0,_,_,_,_,_,h=>by simp[mg]at h
 |n+1,p,acc,l,p',hp,h=>by
  simp only[mg]at h
  split at h
  ·cases hn:fW L en p with
   |error e=>rw[hn]at h;cases h
   |ok nm=>
    rw[hn]at h
    have h1:=(rK hn).1
    have:=CL n (p+1) _ (by omega) h
    simp at this;omega
  ·cases h;omega
theorem FW:∀(n p:Nat)(acc:List Arg){l:List Arg}{p':Nat},p<=L.length->oL L en n p acc=.ok (l,p')->p<=p'/\p'<=L.length/\l.length+p<=acc.length+p'
 |0,_,_,_,_,_,h=>by simp[oL]at h
 |n+1,p,acc,l,p',hp,h=>by
  simp only[oL]at h
  split at h
  ·cases hn:jX L en p with
   |error e=>rw[hn]at h;cases h
   |ok x=>
    obtain⟨a,p1⟩:=x
    rw[hn]at h
    have h1:=ry hn
    have:=FW n p1 _ (by omega) h
    simp at this;omega
  ·cases h;omega
def uV(L:List Tok)(step:Nat->jV (Nat×List Row)):Prop:=∀p p' new,step p=.ok (p',new)->p<p'/\p'<=L.length/\new.length+p<=p'
theorem EE{step:Nat->jV (Nat×List Row)}(hs:uV L step):∀(n p:Nat)(acc:List Row){l:List Row}{p':Nat},qX L step n p acc=.ok (p',l)->p<=p'/\p'<L.length/\l.length+p<=acc.length+p'
 |0,_,_,_,_,h=>by simp[qX]at h
 |n+1,p,acc,l,p',h=>by
  simp only[qX]at h
  split at h
  ·rename_i oG
   cases h
   unfold mJ at oG
   cases hg:L[p]? with
   |none=>rw[hg]at oG;cases oG
   |some t=>
    have:=(zM.1 hg).1
    omega
  ·cases hn:step p with
   |error e=>rw[hn]at h;cases h
   |ok x=>
    obtain⟨p1,new⟩:=x
    rw[hn]at h
    have h1:=hs _ _ _ hn
    have:=EE hs n p1 _ h
    simp at this;omega
theorem Vp{k:Nat}{step:Nat->jV (Nat×List Row)}(hs:uV L step){p p':Nat}{l:List Row}(h:FT L en k step p=.ok (p',l)):p<p'/\p'<=L.length/\l.length+p<p':=by
 unfold FT at h
 cases hn:mF L en p Ii with
 |error e=>rw[hn]at h;cases h
 |ok t=>
  rw[hn]at h
  cases k with
  |zero=>cases h
  |succ k=>
   simp only at h
   cases hl:qX L step (L.length+1) (p+1) [] with
   |error e=>rw[hl]at h;cases h
   |ok x=>
    obtain⟨p1,rows⟩:=x
    rw[hl]at h
    cases h
    have:=EE hs _ _ _ hl
    simp at this;omega
theorem ux{p p':Nat}{row:Row}{l:List Row}(h:kq L en p row=.ok (p',l)):p'=p+1/\p'<=L.length/\l=[row]:=by
 unfold kq at h
 cases hn:mF L en p Ih with
 |error e=>rw[hn]at h;cases h
 |ok t=>rw[hn]at h;cases h;have:=yU hn;exact⟨rfl,by omega,rfl⟩
theorem zj{k:Nat}{step:Nat->jV (Nat×List Row)}(hs:uV L step){p p':Nat}{row:Row}{l:List Row}(h:mM L en k step p row=.ok (p',l)):p<p'/\p'<=L.length/\l.length+p<=p':=by
 unfold mM at h
 cases hn:FT L en k step p with
 |error e=>rw[hn]at h;cases h
 |ok x=>obtain⟨p1,rows⟩:=x;rw[hn]at h;cases h;have:=Vp hs hn;simp;omega
theorem Mo{k:Nat}{step:Nat->jV (Nat×List Row)}(hs:uV L step){p p':Nat}{t:Tok}{l:List Row}(hp:p<L.length)(h:xm L en k step p t=.ok (p',l)):p<p'/\p'<=L.length/\l.length+p<=p':=by
 unfold xm at h
 split at h
 ·cases h1:fW L en (p+1) with
  |error e=>rw[h1]at h;cases h
  |ok nm=>
   rw[h1]at h;simp only at h
   cases h2:eI L en (p+2) with
   |error e=>rw[h2]at h;cases h
   |ok n=>rw[h2]at h;obtain⟨rfl,a,rfl⟩:=ux h;simp;omega
 split at h
 ·cases h1:fW L en (p+1) with
  |error e=>rw[h1]at h;cases h
  |ok nm=>
   rw[h1]at h;simp only at h
   have:=(rK h1).1
   cases h2:mg L en (L.length+1) (p+2) [] with
   |error e=>rw[h2]at h;cases h
   |ok x=>obtain⟨l2,p2⟩:=x;rw[h2]at h;have a:=CL _ _ _ (by omega) h2;have b:=zj hs h;omega
 split at h
 ·cases h1:eI L en (p+1) with
  |error e=>rw[h1]at h;cases h
  |ok n=>rw[h1]at h;have b:=zj hs h;omega
 split at h
 ·cases h1:fW L en (p+1) with
  |error e=>rw[h1]at h;cases h
  |ok nm=>
   rw[h1]at h;simp only at h
   cases h2:eI L en (p+2) with
   |error e=>rw[h2]at h;cases h
   |ok n=>rw[h2]at h;have b:=zj hs h;omega
 split at h
 ·cases h1:jX L en (p+1) with
  |error e=>rw[h1]at h;cases h
  |ok x=>
   obtain⟨a,p1⟩:=x
   rw[h1]at h;simp only at h
   have:=ry h1
   cases h2:jX L en p1 with
   |error e=>rw[h2]at h;cases h
   |ok y=>obtain⟨b,p2⟩:=y;rw[h2]at h;have:=ry h2;obtain⟨rfl,a,rfl⟩:=ux h;simp;omega
 split at h
 ·cases h1:jX L en (p+1) with
  |error e=>rw[h1]at h;cases h
  |ok x=>
   obtain⟨a,p1⟩:=x
   rw[h1]at h;simp only at h
   have:=ry h1
   obtain⟨rfl,a,rfl⟩:=ux h;simp;omega
 ·cases h1:oL L en (L.length+1) (p+1) [] with
  |error e=>rw[h1]at h;cases h
  |ok x=>
   obtain⟨l2,p2⟩:=x
   rw[h1]at h;simp only at h
   have:=FW _ _ _ (by omega) h1
   obtain⟨rfl,a,rfl⟩:=ux h;simp;omega
theorem D9:∀(k:Nat),uV L (lH L en k):=by
 have key:∀k,uV L (nA L en k)->uV L (lH L en k):=by
  intro k hk p p' new h
  rw[D_]at h
  cases h1:gX L en p (iC L p) with
  |error e=>rw[h1]at h;cases h
  |ok t=>rw[h1]at h;exact Mo hk (rJ h1).1 h
 intro k
 induction k with
 |zero=>exact key 0 (fun _ _ _ h=>by simp[nA]at h)
 |succ k ih=>exact key (k+1) ih
end
end
section
open Go.Ab
abbrev qV(l:List Tok):AO:=aO (l.flatMap Tok.enc) 3 117
abbrev ma(tk n:Nat)(p en:Int)(rv:AV):AO:=aO [.sl tk 0 n,.sc (.int .i64 p),.sc (.int .i64 en),rv] 4 89
def dE(e:Int×Int):AV:=.kC 85 (.agg [.sc (.int .i64 e.1),.sc (.int .i64 e.2)])
def sf{α:Type}(x:jV α)(K:α->Prop)(KP:Int×Int->Prop):Prop:=match x with |.ok a=>K a |.error e=>KP e
theorem NW:kx Pg 117=some true:=by kernel_rfl
theorem Ml:eW Pg 117=some 3:=by kernel_rfl
section
variable {h:AH} {r tk:Nat} {L:List Tok} {en:Int} {rv:AV} {M:Nat->Prop} {R:AE->AH->Prop} {p:Nat}
theorem Kk{s:ByteArray}(hR:R (.ret (.sc (.bool (BV s)))) h):ay Pg 87 [.sc (.string s)] h M R:=by
 apply Y0.calls
 unfold BV at hR
 by_cases h1:s=aX
 ·simp[h1]at hR;simp[h1,hR]
 by_cases h2:s=bK
 ·simp[h1,h2]at hR;simp[h1,h2,hR]
 by_cases h3:s=aY
 ·simp[h1,h2,h3]at hR;simp[h1,h2,h3,hR]
 by_cases h4:s=aK
 ·simp[h1,h2,h3,h4]at hR;simp[h1,h2,h3,h4,hR]
 by_cases h5:s=c9
 ·simp[h1,h2,h3,h4,h5]at hR;simp[h1,h2,h3,h4,h5,hR]
 by_cases h6:s=be
 ·simp[h1,h2,h3,h4,h5,h6]at hR;simp[h1,h2,h3,h4,h5,h6,hR]
 by_cases h7:s=ch
 ·simp[h1,h2,h3,h4,h5,h6,h7]at hR;simp[h1,h2,h3,h4,h5,h6,h7,hR]
 simp[h1,h2,h3,h4,h5,h6,h7]at hR;simp[h1,h2,h3,h4,h5,h6,h7,hR]
theorem BU{sg:ByteArray}(hr:h.obj r=some (ma tk L.length p en rv))(ht:h.obj tk=some (qV L))(hR:R (.ret (.sc (.bool (mJ L p sg)))) h):ay Pg 86 [.ptr r 0,.sc (.string sg)] h M R:=by
 apply Y1.calls
 unfold mJ at hR
 by_cases aM:p<L.length
 ·by_cases hk:L[p].kind=3
  ·simp[aM,hk]at hR
   simp[hr,aM,ht,jr Tok.ci,gD Tok.ci,Tok.enc,hk]
   exact hR
  ·simp[aM,hk]at hR
   have tQ:(L[p].kind==3)=false:=by simpa using hk
   rw[tQ]at hR
   simp[hr,aM,ht,jr Tok.ci,gD Tok.ci,Tok.enc,hk]
   exact hR
 ·simp[aM]at hR
  simp[hr,aM]
  exact hR
theorem za(hr:h.obj r=some (ma tk L.length p en rv))(ht:h.obj tk=some (qV L))(hR:R (.ret (.sc (.bool (nh L p)))) h):ay Pg 63 [.ptr r 0] h M R:=by
 apply Y4.calls
 unfold nh at hR
 by_cases aM:p<L.length
 ·by_cases hk:L[p].kind=1
  ·simp[aM,hk]at hR
   simp[hr,aM,ht,jr Tok.ci,gD Tok.ci,Tok.enc,hk]
   refine⟨fun _=>False,fun _ h=>h.elim,Kk ?_⟩
   simp
   exact hR
  ·simp[aM,hk]at hR
   have tQ:(L[p].kind==1)=false:=by simpa using hk
   rw[tQ]at hR
   simp[hr,aM,ht,jr Tok.ci,gD Tok.ci,Tok.enc,hk]
   exact hR
 ·simp[aM]at hR
  simp[hr,aM]
  exact hR
theorem rl{wt:Bool}(hM:M r)(hL:L.length<=65536)(hr:h.obj r=some (ma tk L.length p en rv))(ht:h.obj tk=some (qV L))
  (hR:sf (gX L en p wt) (fun t=>∀h',Fr h h' (·=r)->h'.obj r=some (ma tk L.length (p+1:Nat) en rv)->R (.ret (.agg t.enc)) h') (fun e=>∀h',Fr h h' (·=r)->R (.bV (dE e)) h')) :
  ay Pg 59 [.ptr r 0,.sc (.bool wt)] h M R:=by
 have lI:=h.lt _ _ hr
 have wu:=h.lt _ _ ht
 apply Y7.calls
 unfold gX sf at hR
 by_cases aM:p<L.length
 ·have hg:L[p]?=some L[p]:=zJ aM
  have lL:¬(L.length:Int)<=p:=by omega
  have hw:IntKind.i64.wrap ((p:Int)+1)=(p:Int)+1:=aL (by omega) (by omega)
  cases wt
  ·simp[aM]at hR
   simp[hr,ht,aM,lL,hw,hM,AH.b9,AH.bU,AH.cb,AH.rC,nP lI,nP wu,jr Tok.ci,gD Tok.ci,NW,Ml,sV Tok.ci _ _ _ hg,Tok.enc,Cv]
   refine⟨by omega,?_⟩
   exact hR _ (((Fr.refl.alloc _).alloc _).put (.inr (Nat.le_succ _)))
  ·simp[aM]at hR
   simp[hr,ht,aM,lL,hw,hM,AH.b9,AH.bU,AH.cb,AH.rC,nP lI,nP wu,jr Tok.ci,gD Tok.ci,NW,Ml,sV Tok.ci _ _ _ hg,Tok.enc,Cv]
   refine⟨by omega,?_⟩
   refine hR _ ?_ ?_
   ·(repeat' first |exact Fr.refl |refine Fr.alloc ?_ _ |refine Fr.put ?_ ?_)<;>first |exact .inl rfl |exact .inr (by omega)
   simp[AH.b9,AH.bU,AH.cb,AH.rC,nP lI,hr]
 ·simp[aM]at hR
  have lL:L.length<=p:=by omega
  simp[hr,aM,lL,nP lI,AH.b9]
  exact hR _ (Fr.refl.alloc _)
theorem BL{sg:ByteArray}(hM:M r)(hL:L.length<=65536)(hr:h.obj r=some (ma tk L.length p en rv))(ht:h.obj tk=some (qV L))
  (hR:sf (mF L en p sg) (fun t=>∀h',Fr h h' (·=r)->h'.obj r=some (ma tk L.length (p+1:Nat) en rv)->R (.ret (.agg t.enc)) h') (fun e=>∀h',Fr h h' (·=r)->R (.bV (dE e)) h')) :
  ay Pg 62 [.ptr r 0,.sc (.string sg)] h M R:=by
 have lI:=h.lt _ _ hr
 have wu:=h.lt _ _ ht
 apply Y5.calls
 simp[NW,Ml]
 have C7:(h.alloc (aO [.sc (.int .i64 0),.sc (.string ⟨#[]⟩),.sc (.int .i64 0)] 3 117)).obj r=some (ma tk L.length p en rv):=by rw[AH.alloc_old lI];exact hr
 have X3:(h.alloc (aO [.sc (.int .i64 0),.sc (.string ⟨#[]⟩),.sc (.int .i64 0)] 3 117)).obj tk=some (qV L):=by rw[AH.alloc_old wu];exact ht
 refine⟨fun _=>False,fun _ h=>h.elim,BU C7 X3 ?_⟩
 refine⟨(·=r),fun _ h _=>h ▸ .inl hM,rl rfl hL C7 X3 ?_⟩
 show sf (mF L en p sg) _ _
 have hf:=(Fr.refl (h:=h) (S:=(·=r))).alloc (aO [.sc (.int .i64 0),.sc (.string ⟨#[]⟩),.sc (.int .i64 0)] 3 117)
 cases hs:mF L en p sg with
 |error e=>
  rw[hs]at hR
  intro h' h1
  exact⟨rfl,hR _ (hf.trans (h1.mono fun _ h=>.inl h))⟩
 |ok t=>
  rw[hs]at hR
  intro h' h1 h2
  have h3:=h1.obj (AH.cK _ _) (nP lI).2.1
  have h4:=h1.next
  simp only[AH.bU]at h4
  simp[h3,AH.cb,Tok.enc]
  refine hR _ ((hf.trans (h1.mono fun _ h=>.inl h)).put (.inr (zU _))) ?_
  rw[AH.ja (nP lI).1];exact h2
theorem B4(hM:M r)(hL:L.length<=65536)(hr:h.obj r=some (ma tk L.length p en rv))(ht:h.obj tk=some (qV L))
  (hR:sf (fW L en p) (fun s=>∀h',Fr h h' (·=r)->h'.obj r=some (ma tk L.length (p+1:Nat) en rv)->R (.ret (.sc (.string s))) h') (fun e=>∀h',Fr h h' (·=r)->R (.bV (dE e)) h')) :
  ay Pg 60 [.ptr r 0] h M R:=by
 apply Y6.calls
 simp
 refine⟨fun _=>False,fun _ h=>h.elim,za hr ht ?_⟩
 refine⟨(·=r),fun _ h _=>h ▸ .inl hM,rl rfl hL hr ht ?_⟩
 unfold fW at hR
 cases hs:gX L en p (nh L p) with
 |error e=>
  rw[hs]at hR
  intro h' h1
  exact⟨rfl,hR _ h1⟩
 |ok t=>
  rw[hs]at hR
  intro h' h1 h2
  have:=hR _ h1 h2
  simpa[l7,Tok.enc] using this
end
end
section
open Go.Ab
def Gp(L:List Tok):Prop:=∀t∈L,t.kind=2->∀c∈t.text.data.toList,48<=c.toNat/\c.toNat<=57
abbrev v8(t:Tok):AO:=aO [.sc (.int .i64 t.kind),.sc (.string t.text),.sc (.int .i64 t.at_)] 3 117
abbrev Wb(s:ByteArray)(i:Nat):AO:={ cells:=[],sz:=0,ty:=0,kind:=.iter s i }
theorem HD(s:ByteArray)(i:Nat)(h:i<s.size):s.data.toList.drop i=s[i]::s.data.toList.drop (i+1):=by
 rw[List.drop_eq_getElem_cons (by simpa using h)];rfl
section
variable {W:Nat->Prop} {Q:cG} {QP:cm} {h:AH} {tm:Nat->AV} {tc:Nat} {t:Tok}
theorem Og(hW:∀id,h.next<=id->W id)(hs:t.text.size<=65536)(hd:∀c∈t.text.data.toList,48<=c.toNat/\c.toNat<=57)(h3:tm 3=.ptr tc 0)(hc:h.obj tc=some (v8 t))
  (hQ:match so t.text.data.toList 0 with
   |some n=>∀iJ h',iJ 2=.sc (.int .i64 n)->Fr h h' (fun _=>False)->Q .ret ⟨iJ,[]⟩ h'
   |none=>∀h',Fr h h' (fun _=>False)->QP [] (dE (t.at_,1)) h'):sk.dI W Q QP ⟨tm,[]⟩ h:=by
 simp[-sk.k8,h3,hc,qn]
 unfold sk.k8
 have UE:=h.lt _ _ hc
 refine nK (ι:=Nat) (fun i s' h'=>s'.ds=[]/\s'.tm 3=.ptr tc 0/\s'.tm 35=.ptr h.next 0/\i<=t.text.size/\h'.obj h.next=some (Wb t.text i)/\Fr h h' (fun _=>False) /\
  ∃n:Int,0<=n/\n<=9007199254740991/\s'.tm 4=.sc (.int .i64 n)/\so (t.text.data.toList.drop i) n=so t.text.data.toList 0) (fun i=>t.text.size-i) 0 ?_ ?_
 ·refine⟨rfl,by simp[h3],by simp,by omega,AH.cK _ _,Fr.refl.alloc _,0,by omega,by omega,by simp,rfl⟩
 rintro i ⟨iJ,ds⟩ h' ⟨rfl,e3,Vd,hi,yn,hf,n,vi,rS,e4,hv⟩
 simp only at e3 Vd e4
 rw[sk.l1]
 simp only[sk.k7,Vd,sX]
 refine⟨_,t.text,i,⟨hW _ (zU _),yn,rfl,rfl⟩,?_⟩
 have qK:=hf.obj hc (fun h=>h)
 by_cases aM:i<t.text.size
 ·rw[zX aM]
  have lC:t.text[i]∈t.text.data.toList:=by
   have:t.text.data.toList.drop i=t.text[i]::t.text.data.toList.drop (i+1):=HD _ _ aM
   exact List.mem_of_mem_drop (i:=i) (by rw[this];simp)
  obtain⟨d0,d1⟩:=hd _ lC
  rw[decode_ascii _ _ aM (by omega)]
  rw[HD _ _ aM]at hv
  simp only[so]at hv
  generalize t.text[i].toNat=c at *
  have w1:IntKind.i64.wrap (n*10)=n*10:=aL (by omega) (by omega)
  have w2:IntKind.i32.wrap ((c:Int)-48)=(c:Int)-48:=IntWalk.i32_in _ (by omega)
  have w3:IntKind.i64.wrap ((c:Int)-48)=(c:Int)-48:=aL (by omega) (by omega)
  have w4:IntKind.i64.wrap (n*10+((c:Int)-48))=n*10+((c:Int)-48):=aL (by omega) (by omega)
  by_cases PP:n*10+((c:Int)-48) > 9007199254740991
  ·rw[zX PP]at hv
   rw[<-hv]at hQ
   have Nj:9007199254740991<n*10+((c:Int)-48):=PP
   simp[e3,e4,w1,w2,w3,w4,Nj,AH.pG,nP UE,qK]
   exact hQ _ (hf.Ed (zU _))
  ·rw[zW PP]at hv
   have Nj:¬9007199254740991<n*10+((c:Int)-48):=PP
   simp[e3,e4,Vd,w1,w2,w3,w4,Nj]
   exact⟨i+1,by omega,by omega,by simp[AH.pG,yn],hf.Ed (zU _),n*10+((c:Int)-48),by omega,by omega,rfl,hv⟩
 ·rw[zW aM]
  have:t.text.data.toList.drop i=[]:=List.drop_eq_nil_of_le (by simp;omega)
  rw[this]at hv
  simp only[so]at hv
  rw[<-hv]at hQ
  simp[e4]
  exact hQ _ _ (by simp) hf
end
section
variable {h:AH} {r tk:Nat} {L:List Tok} {en:Int} {rv:AV} {M:Nat->Prop} {R:AE->AH->Prop} {p:Nat}
theorem CJ(hM:M r)(hL:L.length<=65536)(hD:Gp L)(hT:∀t∈L,t.text.size<=65536)(hr:h.obj r=some (ma tk L.length p en rv))(ht:h.obj tk=some (qV L))
  (hR:sf (eI L en p) (fun n=>∀h',Fr h h' (·=r)->h'.obj r=some (ma tk L.length (p+1:Nat) en rv)->R (.ret (.sc (.int .i64 n))) h') (fun e=>∀h',Fr h h' (·=r)->R (.bV (dE e)) h')) :
  ay Pg 61 [.ptr r 0] h M R:=by
 have lI:=h.lt _ _ hr
 have wu:=h.lt _ _ ht
 apply sk.calls
 unfold eI at hR
 have tail:∀(t:Tok)(tm:Nat->AV)(tc:Nat)(h1:AH),gX L en p (jE L p)=.ok t->tm 3=.ptr tc 0->h1.obj tc=some (v8 t)->h.next<=tc->Fr h h1 (·=r)->h1.obj r=some (ma tk L.length (p+1:Nat) en rv)->sk.dI (fun id=>M id\/h.next<=id) (Ab.cQ Pg [.tmp 2] R) (Ab.bF R) ⟨tm,[]⟩ h1:=by
  intro t tm tc h1 hx h3 hc UE hf C7
  rw[hx]at hR
  have lC:t∈L/\t.kind=2:=by
   unfold gX jE at hx
   cases hg:L[p]? with
   |none=>rw[hg]at hx;cases hx
   |some t'=>
    rw[hg]at hx
    simp only at hx
    split at hx
    ·cases hx;exact⟨zP hg,by simp_all⟩
    ·cases hx
  refine Og (t:=t) (fun id hid=>.inr (zR hf.next hid)) (hT _ lC.1) (hD _ lC.1 lC.2) h3 hc ?_
  cases hv:so t.text.data.toList 0 with
  |none=>
   simp only[hv]at hR
   intro h' lM
   simp
   exact hR _ (hf.trans (lM.mono fun _ h=>h.elim))
  |some n=>
   simp only[hv]at hR
   intro iJ h' e2 lM
   simp[e2]
   exact hR _ (hf.trans (lM.mono fun _ h=>h.elim)) (lM.obj C7 (fun h=>h))
 have he:∀e,gX L en p (jE L p)=.error e->∀h',Fr h h' (·=r)->R (.bV (dE e)) h':=by
  intro e hx;rw[hx]at hR;exact hR
 have A1:∀(gF:AV->AV->Nat->AV),(∀a b,gF a b 3=b)->aC Pg (fun id=>M id\/h.next<=id) 59 [.ptr r 0,.sc (.bool (jE L p))] h (fun t44 vu=>bH (some [.int .i64 0,.string ⟨#[]⟩,.int .i64 0]) 3 117 vu fun t46 sQ=>
   aG (some 3) t46 t44 sQ (fun id=>M id\/h.next<=id) fun vt=>sk.dI (fun id=>M id\/h.next<=id) (Ab.cQ Pg [.tmp 2] R) (Ab.bF R) ⟨gF t44 t46,[]⟩ vt) (Ab.bF R []):=by
  intro gF kD
  refine⟨(·=r),fun _ h _=>h ▸ .inl hM,rl rfl hL hr ht ?_⟩
  cases hx:gX L en p (jE L p) with
  |error e=>intro h' h1;exact⟨rfl,he e hx h' h1⟩
  |ok t=>
   intro h' h1 h2
   have h3:=h1.next
   have h4:=h'.lt _ _ h2
   simp[-sk.dI,Tok.enc,AH.b9,h3]
   refine tail t _ h'.next _ hx (by rw[kD]) (by simp[AH.cb,AH.b9]) h3 ((h1.alloc _).put (.inr h3)) (by simp[AH.cb,AH.b9,nP h4,h2])
 have A2:∀(gF:AV->AV->Nat->AV),(∀a b,gF a b 3=b)->bH (some [.int .i64 0,.string ⟨#[]⟩,.int .i64 0]) 3 117 h fun t49 sP=>aC Pg (fun id=>M id\/h.next<=id) 59 [.ptr r 0,.sc (.bool (jE L p))] sP (fun t51 yv=>
   aG (some 3) t49 t51 yv (fun id=>M id\/h.next<=id) fun sO=>sk.dI (fun id=>M id\/h.next<=id) (Ab.cQ Pg [.tmp 2] R) (Ab.bF R) ⟨gF t51 t49,[]⟩ sO) (Ab.bF R []):=by
  intro gF kD
  simp only[aN]
  refine⟨rfl,(·=r),fun _ h _=>h ▸ .inl hM,rl rfl hL (p:=p) (L:=L) (tk:=tk) (en:=en) (rv:=rv) (by rw[AH.alloc_old lI];exact hr) (by rw[AH.alloc_old wu];exact ht) ?_⟩
  have hf:=(Fr.refl (h:=h) (S:=(·=r))).alloc (aO ([.int .i64 0,.string ⟨#[]⟩,.int .i64 0].map .sc) 3 117)
  cases hx:gX L en p (jE L p) with
  |error e=>intro h' h1;exact⟨rfl,he e hx h' (hf.trans (h1.mono fun _ h=>.inl h))⟩
  |ok t=>
   intro h' h1 h2
   have h3:=h1.obj (AH.cK _ _) (nP lI).2.1
   have h4:=h1.next
   simp only[AH.bU]at h4
   simp[-sk.dI,Tok.enc,h3]
   refine tail t _ h.next _ hx (by rw[kD]) (by simp[AH.cb,h3]) (zU _) ((hf.trans (h1.mono fun _ h=>.inl h)).put (.inr (zU _))) (by simp[AH.cb,nP lI,h2])
 by_cases aM:p<L.length
 ·by_cases hk:L[p].kind=2
  ·have hw:jE L p=true:=by simp[jE,aM,hk]
   simp only[hw]at A1 A2
   simp[-sk.dI,-aN,-aD,hr,ht,aM,jr Tok.ci,gD Tok.ci,Tok.enc,hk]
   exact⟨A1 _ (fun _ _=>by simp),A2 _ (fun _ _=>by simp)⟩
  ·have hw:jE L p=false:=by simp[jE,aM,hk]
   have PL:(L[p].kind==2)=false:=by simpa using hk
   simp only[hw]at A1 A2
   simp[-sk.dI,-aN,-aD,hr,ht,aM,jr Tok.ci,gD Tok.ci,Tok.enc,PL]
   exact⟨A1 _ (fun _ _=>by simp),A2 _ (fun _ _=>by simp)⟩
 ·have hw:jE L p=false:=by simp[jE,aM]
  simp only[hw]at A1 A2
  simp[-sk.dI,-aN,-aD,hr,aM]
  exact⟨A1 _ (fun _ _=>by simp),A2 _ (fun _ _=>by simp)⟩
end
end
section
open Go.Ab
def Arg.enc(a:Arg):List AV:=[.sc (.string a.name),.sc (.int .i64 a.index)]
theorem Arg.ci(a:Arg):a.enc.length=2:=rfl
theorem Arg.gL(a:Arg):a.enc.all cB=true:=rfl
theorem abA:kx Pg 67=some true:=by kernel_rfl
theorem ZA:eW Pg 67=some 2:=by kernel_rfl
abbrev Ir(a:Arg):AO:=aO [.sc (.string a.name),.sc (.int .i64 a.index)] 2 67
section
variable {h:AH} {r tk:Nat} {L:List Tok} {en:Int} {rv:AV} {M:Nat->Prop} {R:AE->AH->Prop} {p:Nat}
theorem pO(hM:M r)(hL:L.length<=65536)(hp:p<=L.length)(hD:Gp L)(hT:∀t∈L,t.text.size<=65536)(hr:h.obj r=some (ma tk L.length p en rv))(ht:h.obj tk=some (qV L))
  (hR:sf (jX L en p) (fun x=>∀h',Fr h h' (·=r)->h'.obj r=some (ma tk L.length x.2 en rv)->R (.ret (.agg x.1.enc)) h') (fun e=>∀h',Fr h h' (·=r)->R (.bV (dE e)) h')) :
  ay Pg 65 [.ptr r 0] h M R:=by
 have lI:=h.lt _ _ hr
 have wu:=h.lt _ _ ht
 apply qq.calls
 unfold jX at hR
 have Yr:=(Fr.refl (h:=h) (S:=(·=r))).alloc (aO [.sc (.string ⟨#[]⟩),.sc (.int .i64 0)] 2 67)
 have tail:∀(tm:Nat->AV)(h1:AH)(a:Nat)(x:Arg)(q:Nat),tm 2=.ptr h.next 0->tm 3=.ptr a 0->h1.obj a=some (Ir x)->(∃c1 c2,h1.obj h.next=some (aO [c1,c2] 2 67))->Fr h h1 (·=r)->h1.obj r=some (ma tk L.length q en rv) ->
   (∀h',Fr h h' (·=r)->h'.obj r=some (ma tk L.length q en rv)->R (.ret (.agg x.enc)) h')->qq.k1 (fun id=>M id\/h.next<=id) (Ab.cQ Pg [.cell 2 67] R) (Ab.bF R) ⟨tm,[]⟩ h1:=by
  intro tm h1 a x q e2 e3 ha ⟨c1,c2,hq⟩ hf C7 hR
  simp[e2,e3,ha,hq,abA,ZA,AH.cb]
  exact hR _ (hf.put (.inr (zU _))) (by rw[AH.ja (nP lI).1];exact C7)
 simp only[qq.k8,qq.k7,aN]
 refine⟨rfl,?_⟩
 simp only[List.map_cons,List.map_nil,aj,eZ,s0]
 simp[-qq.k6]
 refine⟨(·=r),fun _ h _=>h ▸ .inl hM,B4 rfl hL (p:=p) (L:=L) (tk:=tk) (en:=en) (rv:=rv) (by rw[AH.alloc_old lI];exact hr) (by rw[AH.alloc_old wu];exact ht) ?_⟩
 cases hn:fW L en p with
 |error e=>
  rw[hn]at hR
  intro h' h1
  exact⟨rfl,hR _ (Yr.trans (h1.mono fun _ h=>.inl h))⟩
 |ok nm=>
  rw[hn]at hR
  have aM:p<L.length:=by
   unfold fW gX at hn
   cases hg:L[p]? with
   |none=>rw[hg]at hn;cases hn
   |some t=>exact(zM.1 hg).1
  intro h1 f1 r1
  have YN:=Yr.trans (f1.mono fun _ h=>.inl h)
  have q1:=f1.obj (AH.cK _ _) (nP lI).2.1
  have n1:=f1.next
  simp only[AH.bU]at n1
  have t1:=YN.obj ht (b5 ht hr (show(117:Nat)≠89 by decide))
  simp[-qq.k6,AH.b9]
  have f2:=(YN.alloc (aO [.sc (.string ⟨#[]⟩),.sc (.int .i64 0)] 2 67)).put (id:=h1.next) (off:=0) (cs:=[.sc (.string nm),.sc (.int .i64 (-1))]) (.inr (by omega))
  have r2:((h1.alloc (aO [.sc (.string ⟨#[]⟩),.sc (.int .i64 0)] 2 67)).put h1.next 0 [.sc (.string nm),.sc (.int .i64 (-1))]).obj r=some (ma tk L.length (p+1:Nat) en rv):=by
   have:=h1.lt _ _ r1
   simp[AH.cb,AH.b9,nP this,r1]
  have a2:((h1.alloc (aO [.sc (.string ⟨#[]⟩),.sc (.int .i64 0)] 2 67)).put h1.next 0 [.sc (.string nm),.sc (.int .i64 (-1))]).obj h1.next=some (Ir ⟨nm,-1⟩):=by simp[AH.cb,AH.b9]
  have q2:((h1.alloc (aO [.sc (.string ⟨#[]⟩),.sc (.int .i64 0)] 2 67)).put h1.next 0 [.sc (.string nm),.sc (.int .i64 (-1))]).obj h.next=some (aO [.sc (.string ⟨#[]⟩),.sc (.int .i64 0)] 2 67):=by
   have:h.next<h1.next:=by omega
   simp[AH.cb,AH.b9,nP this,q1]
  have t2:=f2.obj ht (b5 ht hr (show(117:Nat)≠89 by decide))
  have an:h.next<h1.next:=by omega
  generalize (h1.alloc (aO [.sc (.string ⟨#[]⟩),.sc (.int .i64 0)] 2 67)).put h1.next 0 [.sc (.string nm),.sc (.int .i64 (-1))]=h2 at *
  generalize h1.next=a at *
  have an2:=h2.lt _ _ a2
  refine⟨.inr (by omega),?_⟩
  simp only[qq.k6,aj,eZ]
  simp[-qq.k5]
  refine⟨fun _=>False,fun _ h=>h.elim,BU r2 t2 ?_⟩
  cases oG:mJ L (p+1) S1 with
  |false=>
   simp only[oG,zE,if_false]at hR
   simp[-qq.k1]
   exact tail _ _ a ⟨nm,-1⟩ _ (by simp) (by simp) a2 ⟨_,_,q2⟩ f2 r2 hR
  |true=>
   simp only[oG,zV]at hR
   have Ur:p+1<L.length:=by
    unfold mJ at oG
    cases hg:L[p+1]? with
    |none=>rw[hg]at oG;cases oG
    |some t=>exact(zM.1 hg).1
   have hw:IntKind.i64.wrap ((p:Int)+1+1)=((p+2:Nat):Int):=by rw[aL (by omega) (by omega)];omega
   simp[-qq.k3,r2,hM,hw]
   have f3:=f2.put (id:=r) (off:=1) (cs:=[.sc (.int .i64 ((p:Int)+2))]) (.inl rfl)
   have r3:(h2.put r 1 [.sc (.int .i64 ((p:Int)+2))]).obj r=some (ma tk L.length (p+2:Nat) en rv):=by simp[AH.cb,r2]
   have a3:(h2.put r 1 [.sc (.int .i64 ((p:Int)+2))]).obj a=some (Ir ⟨nm,-1⟩):=by rw[AH.ja (by omega)];exact a2
   have q3:(h2.put r 1 [.sc (.int .i64 ((p:Int)+2))]).obj h.next=some (aO [.sc (.string ⟨#[]⟩),.sc (.int .i64 0)] 2 67):=by rw[AH.ja (by omega)];exact q2
   have t3:=f3.obj ht (b5 ht hr (show(117:Nat)≠89 by decide))
   generalize h2.put r 1 [.sc (.int .i64 ((p:Int)+2))]=h3 at *
   have an3:=h3.lt _ _ a3
   simp only[qq.k3,aj,eZ]
   simp[-qq.k2]
   refine⟨(·=r),fun _ h _=>h ▸ .inl hM,CJ rfl hL hD hT r3 t3 ?_⟩
   cases Ye:eI L en (p+2) with
   |error e=>
    rw[Ye]at hR
    intro h' h1
    exact⟨rfl,hR _ (f3.trans (h1.mono fun _ h=>.inl h))⟩
   |ok n=>
    rw[Ye]at hR
    intro h4 f4 r4
    have a4:=f4.obj a3 (by omega)
    have q4:=f4.obj q3 (by omega)
    have f4':=f3.trans (f4.mono fun _ h=>.inl h)
    simp[-qq.k2,a4]
    have f5:=f4'.put (id:=a) (off:=1) (cs:=[.sc (.int .i64 n)]) (.inr (by omega))
    have r5:(h4.put a 1 [.sc (.int .i64 n)]).obj r=some (ma tk L.length (p+3:Nat) en rv):=by rw[AH.ja (by omega)];exact r4
    have a5:(h4.put a 1 [.sc (.int .i64 n)]).obj a=some (Ir ⟨nm,n⟩):=by simp[AH.cb,a4]
    have q5:(h4.put a 1 [.sc (.int .i64 n)]).obj h.next=some (aO [.sc (.string ⟨#[]⟩),.sc (.int .i64 0)] 2 67):=by rw[AH.ja (by omega)];exact q4
    have t5:=f5.obj ht (b5 ht hr (show(117:Nat)≠89 by decide))
    have Hf:a<h4.next:=h4.lt _ _ a4
    refine⟨by omega,?_⟩
    generalize h4.put a 1 [.sc (.int .i64 n)]=h5 at *
    simp only[qq.k2,aj,eZ]
    simp[-qq.k1]
    refine⟨(·=r),fun _ h _=>h ▸ .inl hM,BL rfl hL r5 t5 ?_⟩
    cases C6:mF L en (p+3) My with
    |error e=>
     rw[C6]at hR
     intro h' h1
     exact⟨rfl,hR _ (f5.trans (h1.mono fun _ h=>.inl h))⟩
    |ok t=>
     rw[C6]at hR
     intro h6 f6 r6
     simp[-qq.k1]
     exact tail _ _ a ⟨nm,n⟩ _ (by simp) (by simp) (f6.obj a5 (by omega)) ⟨_,_,f6.obj q5 (by omega)⟩ (f5.trans (f6.mono fun _ h=>.inl h)) r6 hR
end
end
section
open Go.Ab
def au(x:Row×AV):List AV:=[.sc (.string x.1.kind),.sc (.string x.1.name),x.2,.sc (.int .i64 x.1.num),.sc (.int .i64 x.1.rows),.sc (.int .i64 x.1.place)]
theorem eF(x:Row×AV):(au x).length=6:=rfl
def fh(h:AH)(x:AV)(rows:List Row):Prop:=∃l:List (Row×AV),bw au 6 46 h x l/\l.map (·.1)=rows/\∀y∈l,bw Arg.enc 2 67 h y.2 y.1.args
theorem fh.fr{h h':AH}{S:Nat->Prop}{x:AV}{rows:List Row}(hr:fh h x rows)(hf:Fr h h' S)(hx:∀id,x=.sl id 0 rows.length->¬S id)(ha:∀id o,h.obj id=some o->o.ty=67->¬S id):fh h' x rows:=by
 obtain⟨l,h1,h2,h3⟩:=hr
 refine⟨l,h1.bJ hf (fun id he=>hx id (by rw[he,<-h2];simp)),h2,fun y hy=>?_⟩
 rcases h3 y hy with h4 |⟨id,h4,ho⟩
 ·exact .inl h4
 ·exact .inr ⟨id,h4,hf.obj ho (ha id _ ho rfl)⟩
theorem fh.nil{h:AH}:fh h aV []:=⟨[],.nil,rfl,by simp⟩
structure RS (h:AH) (r tk:Nat) (L:List Tok) (en:Int) (p:Nat) (rv:AV) (rows:List Row):Prop where
 r:h.obj r=some (ma tk L.length p en rv)
 t:h.obj tk=some (qV L)
 rows:fh h rv rows
theorem fh.id{h:AH}{x:AV}{rows:List Row}(hr:fh h x rows){id off n:Nat}(hx:x=.sl id off n):off=0/\n=rows.length/\∃o,h.obj id=some o/\o.ty=46:=by
 obtain⟨l,h1,h2,h3⟩:=hr
 rcases h1 with⟨h4,_⟩ |⟨qc,h4,ho⟩
 ·rw[h4]at hx;cases hx
 ·rw[h4]at hx;cases hx;exact⟨rfl,by rw[<-h2];simp,_,ho,rfl⟩
theorem RS.step{h h':AH}{r tk:Nat}{L:List Tok}{en:Int}{p p':Nat}{rv:AV}{rows:List Row}(hs:RS h r tk L en p rv rows)(hf:Fr h h' (·=r))(hr:h'.obj r=some (ma tk L.length p' en rv)):RS h' r tk L en p' rv rows:=by
 refine⟨hr,hf.obj hs.t (b5 hs.t hs.r (show(117:Nat)≠89 by decide)),hs.rows.fr hf (fun id he hid=>?_) (fun id o ho jF hid=>?_)⟩
 ·obtain⟨_,_,o,ho,jF⟩:=hs.rows.id he
  exact b5 ho hs.r (by rw[jF];show(46:Nat)≠89;decide) hid
 ·exact b5 ho hs.r (by rw[jF];show(67:Nat)≠89;decide) hid
theorem RS.still{h h':AH}{r tk:Nat}{L:List Tok}{en:Int}{p:Nat}{rv:AV}{rows:List Row}(hs:RS h r tk L en p rv rows){v:Nat}(hf:Fr h h' (·=v))(hv:v≠r)(ym:∀id,rv=.sl id 0 rows.length->id≠v)(jF:∀o,h.obj v=some o->o.ty≠117/\o.ty≠67):RS h' r tk L en p rv rows:=by
 refine⟨hf.obj hs.r (Ne.symm hv),hf.obj hs.t (fun e=>(jF _ (e ▸ hs.t)).1 rfl),hs.rows.fr hf ym (fun id o ho ht hid=>?_)⟩
 subst hid
 exact(jF _ ho).2 ht
def SS(r:Nat)(rv:AV)(id:Nat):Prop:=id=r\/∃n,rv=.sl id 0 n
theorem RS.ym{h:AH}{r tk:Nat}{L:List Tok}{en:Int}{p:Nat}{rv:AV}{rows:List Row}(hs:RS h r tk L en p rv rows):∀{id off n},rv=.sl id off n->off=0/\n=rows.length/\id<h.next:=by
 intro id off n he
 obtain⟨a,b,o,ho,_⟩:=hs.rows.id he
 exact⟨a,b,h.lt _ _ ho⟩
theorem fh.len{h:AH}{x:AV}{rows:List Row}(hr:fh h x rows):(aW x=false)/\∀K,bL x K=K (.sc (.int .i64 rows.length)):=by
 obtain⟨l,h1,h2,h3⟩:=hr
 have:rows.length=l.length:=by rw[<-h2];simp
 rw[this]
 exact⟨(h1.len (K:=fun _=>True)).1,fun K=>(h1.len (K:=K)).2⟩
def VC(h:AH)(r tk:Nat)(L:List Tok)(en:Int)(rv:AV)(rows:List Row)(ret:Nat×List Row->AH->Prop)(bV:AV->AH->Prop)(res:jV (Nat×List Row)):Prop:=
 sf res (fun x=>∀h' tF,RS h' r tk L en x.1 tF (rows++x.2)->Fr h h' (SS r rv)->cz (fun id=>SS r rv id\/h.next<=id) tF->ret x h') (fun e=>∀h',Fr h h' (SS r rv)->bV (dE e) h')
structure oM (L:List Tok):Prop where
 len:L.length<=65536
 Lz:Gp L
 JE:∀t∈L,t.text.size<=65536
def Ge(L:List Tok)(en:Int)(k:Nat):Prop:=∀{h:AH}{r tk:Nat}{rv:AV}{rows:List Row}{M:Nat->Prop}{R:AE->AH->Prop}{p:Nat}{d:Int},d=32-(k:Int)->(∀id,SS r rv id->M id)->RS h r tk L en p rv rows->p<=L.length->rows.length<=p ->
 VC h r tk L en rv rows (fun _ h'=>R (.ret (.cM [])) h') (fun v h'=>R (.bV v) h') (lH L en k p)->ay Pg 35 [.ptr r 0,.sc (.int .i64 d)] h M R
def qt(L:List Tok)(en:Int)(k:Nat):Prop:=∀{h:AH}{r tk:Nat}{rv:AV}{rows:List Row}{M:Nat->Prop}{R:AE->AH->Prop}{p:Nat}{d:Int},d=33-(k:Int)->(∀id,SS r rv id->M id)->RS h r tk L en p rv rows->p<=L.length->rows.length<=p ->
 VC h r tk L en rv rows (fun x h'=>R (.ret (.sc (.int .i64 x.2.length))) h') (fun v h'=>R (.bV v) h') (FT L en k (nA L en k) p)->ay Pg 64 [.ptr r 0,.sc (.int .i64 d)] h M R
theorem tu{h h1 h2:AH}{r:Nat}{rv G1:AV}(a:Fr h h1 (SS r rv))(hi:cz (fun id=>SS r rv id\/h.next<=id) G1)(b:Fr h1 h2 (SS r G1)):Fr h h2 (SS r rv):=
 a.trans (b.mono fun id hs=>by
  rcases hs with hs |⟨n,hn⟩
  ·exact .inl (.inl hs)
  ·exact hi id 0 n hn)
theorem EM{h h1:AH}{r:Nat}{rv G1 Au:AV}(hn:h.next<=h1.next)(hi:cz (fun id=>SS r rv id\/h.next<=id) G1)(vj:cz (fun id=>SS r G1 id\/h1.next<=id) Au)(h2:∀{id off n},G1=.sl id off n->off=0):cz (fun id=>SS r rv id\/h.next<=id) Au:=by
 intro id off n he
 rcases vj id off n he with(h3 |⟨m,h3⟩) |h3
 ·exact .inl (.inl h3)
 ·exact hi id 0 m h3
 ·exact .inr (zR hn h3)
section
variable {L:List Tok} {en:Int}
theorem HH{k:Nat}(hL:oM L)(hs:∀k',k=k'+1->Ge L en k'):qt L en k:=by
 intro h r tk rv rows M R p d hd hM nT hp X7 hR
 have lI:=h.lt _ _ nT.r
 have wu:=h.lt _ _ nT.t
 have Hp:=hM r (.inl rfl)
 have wK:=hL.len
 apply sj.calls
 unfold FT at hR
 simp only[sj.ep,sj.dI]
 simp[-sj.k9]
 refine⟨(·=r),fun _ h _=>h ▸ .inl Hp,BL rfl hL.len nT.r nT.t ?_⟩
 cases C6:mF L en p Ii with
 |error e=>
  rw[C6]at hR
  intro h' h1
  exact⟨rfl,hR _ (h1.mono fun _ h=>.inl h)⟩
 |ok t=>
  rw[C6]at hR
  have aM:=yU C6
  intro h1 f1 r1
  have ss:=nT.step f1 r1
  have n1:=f1.next
  simp[-sj.k9,Tok.enc,AH.b9]
  refine⟨.inr n1,?_⟩
  have f2:=(((Fr.refl (h:=h1) (S:=(·=h1.next))).alloc (aO [.sc (.int .i64 0),.sc (.string ⟨#[]⟩),.sc (.int .i64 0)] 3 117))).put (id:=h1.next) (off:=0) (cs:=[.sc (.int .i64 t.kind),.sc (.string t.text),.sc (.int .i64 t.at_)]) (.inl rfl)
  have c2:((h1.alloc (aO [.sc (.int .i64 0),.sc (.string ⟨#[]⟩),.sc (.int .i64 0)] 3 117)).put h1.next 0 [.sc (.int .i64 t.kind),.sc (.string t.text),.sc (.int .i64 t.at_)]).obj h1.next=some (v8 t):=by simp[AH.cb,AH.b9]
  have Wc:∀o,h1.obj h1.next=some o->False:=fun o ho=>by have:=h1.lt _ _ ho;omega
  have j8:=ss.still f2 (nP (h1.lt _ _ r1)).2.1 (fun id he=>by have:=ss.ym he;omega) (fun o ho=>(Wc o ho).elim)
  have Qg:Fr h _ (SS r rv):=(f1.mono fun _ h=>.inl h).trans (f2.mono fun id (hid:id=h1.next)=>.inr (by omega))
  generalize (h1.alloc (aO [.sc (.int .i64 0),.sc (.string ⟨#[]⟩),.sc (.int .i64 0)] 3 117)).put h1.next 0 [.sc (.int .i64 t.kind),.sc (.string t.text),.sc (.int .i64 t.at_)]=h2 at *
  simp only[sj.k9,aj,eZ]
  cases k with
  |zero=>
   have E_:(32:Int)<d:=by omega
   simp[-sj.k7,E_,c2]
   exact hR _ Qg
  |succ k=>
   have E_:¬(32:Int)<d:=by omega
   simp only at hR
   simp[-sj.k6,E_,j8.r,j8.rows.len.1,j8.rows.len.2]
   unfold sj.k6
   have Wm:nA L en (k+1)=lH L en k:=rfl
   rw[Wm]at hR
   generalize hX:qX L (lH L en k) (L.length+1) (p+1) []=X at hR
   refine nK (ι:=Nat×Nat×List Row) (fun x s' h'=>s'.ds=[]/\s'.tm 0=.ptr r 0/\s'.tm 1=.sc (.int .i64 d)/\s'.tm 6=.sc (.int .i64 rows.length)/\x.2.1<=L.length/\L.length<x.2.1+x.1/\(rows++x.2.2).length<=x.2.1 /\
    qX L (lH L en k) x.1 x.2.1 x.2.2=X /\
    ∃tF,RS h' r tk L en x.2.1 tF (rows++x.2.2)/\Fr h h' (SS r rv)/\cz (fun id=>SS r rv id\/h.next<=id) tF) (fun x=>x.1) (L.length+1,p+1,[]) ?_ ?_
   ·refine⟨rfl,by simp,by simp,by simp,by simp;omega,by simp;omega,by simp;omega,hX,rv,by simpa using j8,Qg,fun id off n he=>?_⟩
    obtain⟨rfl,_,_⟩:=nT.ym he
    exact .inl (.inr ⟨n,he⟩)
   rintro⟨n,q,acc⟩ ⟨tm,ds⟩ h' ⟨rfl,e0,e1,e6,hq,AY,hlen,ns,tF,oQ,Qe,vh⟩
   simp only at e0 e1 e6 hq AY hlen ns oQ
   rw[sj.l1]
   cases n with
   |zero=>omega
   |succ n=>
    simp only[qX]at ns
    simp only[sj.k5,e0]
    refine⟨fun _=>False,fun _ h=>h.elim,BU oQ.r oQ.t ?_⟩
    cases oG:mJ L q O4 with
    |true=>
     simp only[oG,zV]at ns
     rw[<-ns]at hR
     have hw:IntKind.i64.wrap ((q:Int)+1)=(q:Int)+1:=aL (by omega) (by omega)
     have Wz:=hlen
     rw[List.length_append]at Wz
     have Pw:IntKind.i64.wrap (((rows++acc).length:Int)-rows.length)=acc.length:=by rw[List.length_append,aL (by omega) (by omega)];omega
     have f3:=(Fr.refl (h:=h') (S:=(·=r))).put (id:=r) (off:=1) (cs:=[.sc (.int .i64 ((q:Int)+1))]) (.inl rfl)
     have nM:=oQ.step (p':=q+1) f3 (by simp[AH.cb,oQ.r])
     have fr3:=tu Qe vh (f3.mono fun _ h=>.inl h)
     simp[-sj.k1,e0,oQ.r,Hp,hw]
     generalize h'.put r 1 [.sc (.int .i64 ((q:Int)+1))]=h3 at *
     simp only[List.length_append,Int.natCast_add]at Pw
     simp[e6,e0,nM.r,nM.rows.len.1,nM.rows.len.2,Pw]
     exact hR _ _ nM fr3 vh
    |false=>
     simp only[oG,zE,if_false]at ns
     simp only[dR,sj.k4,sj.k3,aj,eZ,zT,zV,ao]
     simp only[Nat.reduceEqDiff,if_false,zV,e0,e1,zF,zC,zI,zD]
     refine⟨SS r tF,fun id hid _=>?_,hs k rfl (rv:=tF) (rows:=rows++acc) (p:=q) (by omega) (fun _ h=>h) oQ hq hlen ?_⟩
     ·rcases hid with hid |⟨m,hid⟩
      ·exact hid ▸ .inl Hp
      ·rcases vh id 0 m hid with h4 |h4
       ·exact .inl (hM _ h4)
       ·exact .inr h4
     cases eM:lH L en k q with
     |error e=>
      rw[eM]at ns
      rw[<-ns]at hR
      intro h4 f4
      exact⟨rfl,hR _ (tu Qe vh f4)⟩
     |ok x=>
      obtain⟨q2,new⟩:=x
      rw[eM]at ns
      simp only at ns
      obtain⟨b1,b2,b3⟩:=D9 k q q2 new eM
      intro h4 rv4 rs4 f4 in4
      simp only[b_]
      refine⟨(n,q2,acc++new),by simp,trivial,by simp[e0],by simp[e1],by simp[e6],b2,by simp;omega,by simp at hlen ⊢;omega,ns,rv4,by simpa using rs4,tu Qe vh f4,EM Qe.next vh in4 (fun he=>(oQ.ym he).1)⟩
end
end
section
open Go.Ab
structure SI (h0 h:AH) (r tk:Nat) (L:List Tok) (en:Int) (dB:AV) (br:List Row) (v p:Nat) (rv:AV) (d0:Row) (inner:List Row) (cells:List AV):Prop where
 fr:Fr h0 h (SS r dB)
 rs:RS h r tk L en p rv (br++d0::inner)
 ins:cz (fun id=>h0.next<=id/\id≠v) rv
 vo:h.obj v=some (aO cells 6 46)
 vn:h0.next<=v
 rn:r<h0.next
section
variable {h0 h h':AH} {r tk:Nat} {L:List Tok} {en:Int} {dB:AV} {br:List Row} {v p:Nat} {rv:AV} {d0:Row} {inner:List Row} {cells:List AV}
theorem SI.vr(s:SI h0 h r tk L en dB br v p rv d0 inner cells):v≠r:=by have:=s.vn;have:=s.rn;omega
theorem SI.call(s:SI h0 h r tk L en dB br v p rv d0 inner cells){p':Nat}(hf:Fr h h' (·=r))(hr:h'.obj r=some (ma tk L.length p' en rv)):SI h0 h' r tk L en dB br v p' rv d0 inner cells:=
 ⟨s.fr.trans (hf.mono fun _ h=>.inl (.inl h)),s.rs.step hf hr,s.ins,hf.obj s.vo s.vr,s.vn,s.rn⟩
theorem SI.quiet(s:SI h0 h r tk L en dB br v p rv d0 inner cells)(hf:Fr h h' (fun _=>False)):SI h0 h' r tk L en dB br v p rv d0 inner cells:=
 s.call (hf.mono fun _ h=>h.elim) (hf.obj s.rs.r fun h=>h)
theorem SI.set(s:SI h0 h r tk L en dB br v p rv d0 inner cells)(off:Nat)(cs:List AV):SI h0 (h.put v off cs) r tk L en dB br v p rv d0 inner (putCells cells off cs):=by
 have f:Fr h (h.put v off cs) (·=v):=Fr.refl.put (.inl rfl)
 refine⟨s.fr.trans (f.mono fun id (hid:id=v)=>.inr (hid ▸ s.vn)),s.rs.still f s.vr (fun id he=>(s.ins id 0 _ he).2) ?_,s.ins,ly s.vo,s.vn,s.rn⟩
 intro o ho
 rw[s.vo]at ho;cases ho
 exact⟨show(46:Nat)≠117 by decide,show(46:Nat)≠67 by decide⟩
theorem SI.body(s:SI h0 h r tk L en dB br v p rv d0 inner cells){p':Nat}{tF:AV}{new:List Row}(nT:RS h' r tk L en p' tF ((br++d0::inner)++new))(hf:Fr h h' (SS r rv))(hi:cz (fun id=>SS r rv id\/h.next<=id) tF) :
  SI h0 h' r tk L en dB br v p' tF d0 (inner++new) cells:=by
 have hv:¬SS r rv v:=by
  rintro(h1 |⟨n,h1⟩)
  ·exact s.vr h1
  ·exact(s.ins v 0 n h1).2 rfl
 have qe:=h.lt _ _ s.vo
 refine⟨s.fr.trans (hf.mono fun id hid=>?_),by simpa using nT,fun id off n he=>?_,hf.obj s.vo hv,s.vn,s.rn⟩
 ·rcases hid with h1 |⟨n,h1⟩
  ·exact .inl (.inl h1)
  ·exact .inr (s.ins id 0 n h1).1
 ·have h0:=(nT.ym he).1
  rcases hi id off n he with(h1 |⟨m,h1⟩) |h1
  ·obtain⟨_,_,o,ho,jF⟩:=nT.rows.id he
   exact(b5 ho nT.r (by rw[jF];show(46:Nat)≠89;decide) h1).elim
  ·exact s.ins id 0 m h1
  ·exact⟨zR s.vn (by omega),by omega⟩
theorem iU{a:AV}{l:List Arg}(ha:bw Arg.enc 2 67 h a l){S:Nat->Prop}(hf:Fr h h' S)(hS:∀id o,h.obj id=some o->o.ty=67->¬S id):bw Arg.enc 2 67 h' a l:=by
 rcases ha with h1 |⟨id,h1,ho⟩
 ·exact .inl h1
 ·exact .inr ⟨id,h1,hf.obj ho (hS id _ ho rfl)⟩
theorem SI.a_call(s:SI h0 h r tk L en dB br v p rv d0 inner cells):∀id o,h.obj id=some o->o.ty=67->¬id=r:=fun id o ho ht=>b5 ho s.rs.r (by rw[ht];show(67:Nat)≠89;decide)
theorem SI.DY(s:SI h0 h r tk L en dB br v p rv d0 inner cells):∀id o,h.obj id=some o->o.ty=67->¬id=v:=fun id o ho ht=>b5 ho s.vo (by rw[ht];show(67:Nat)≠46;decide)
theorem SI.VB(s:SI h0 h r tk L en dB br v p rv d0 inner cells):∀id o,h.obj id=some o->o.ty=67->¬SS r rv id:=by
 rintro id o ho ht (h1 |⟨n,h1⟩)
 ·exact s.a_call id o ho ht h1
 ·obtain⟨_,_,o',dJ,jF⟩:=s.rs.rows.id h1
  exact b5 ho dJ (by rw[ht,jF];show(67:Nat)≠46;decide) rfl
end
section
variable {h0 h:AH} {r tk:Nat} {L:List Tok} {en:Int} {dB:AV} {br:List Row} {v p:Nat} {rv:AV} {d0:Row} {inner:List Row} {M:Nat->Prop} {R:AE->AH->Prop} {tm:Nat->AV} {a:AV} {row:Row}
def Fin(h0:AH)(r tk:Nat)(L:List Tok)(en:Int)(dB:AV)(br:List Row)(R:AE->AH->Prop)(res:jV (Nat×List Row)):Prop:=VC h0 r tk L en dB br (fun _ h'=>R (.ret (.cM [])) h') (fun v h'=>R (.bV v) h') res
theorem HS(s:SI h0 h r tk L en dB br v p rv d0 inner (au (row,a)))(ha:bw Arg.enc 2 67 h a row.args)(e0:tm 0=.ptr r 0)(e5:tm 5=.ptr v 0)(e6:tm 6=.sc (.int .i64 br.length))
  (hR:Fin h0 r tk L en dB br R (.ok (p,row::inner))):dt.k1 (fun id=>M id\/h0.next<=id) (Ab.cQ Pg [] R) (Ab.bF R) ⟨tm,[]⟩ h:=by
 obtain⟨l,h1,h2,h3⟩:=s.rs.rows
 rcases h1 with⟨_,h1⟩ |⟨id,hid,ho⟩
 ·subst h1;simp at h2
 obtain⟨A,l2,rfl,hA,Hi⟩:=List.map_eq_append_iff.1 h2
 obtain⟨x,B,rfl,hx,hB⟩:=List.map_eq_cons_iff.1 Hi
 have hAl:A.length=br.length:=by rw[<-hA];simp
 obtain⟨i1,i2⟩:=s.ins id 0 _ hid
 have aaK:id≠r:=by have:=s.rn;omega
 have IN:=DH eF A B x (row,a)
 have aM:(br.length:Int)<((A++x::B).length:Nat):=by simp;omega
 have aaT:br.length*6+6<=((A++x::B).flatMap au).length:=by rw[fR eF];simp;omega
 rw[hAl]at IN
 have f1:Fr h (h.put id (br.length*6) (au (row,a))) (·=id):=Fr.refl.put (.inl rfl)
 have o1:(h.put id (br.length*6) (au (row,a))).obj id=some (aO ((A++(row,a)::B).flatMap au) 6 46):=by rw[ly ho,IN]
 have ss:RS (h.put id (br.length*6) (au (row,a))) r tk L en p rv (br++row::inner):=by
  have ak:∀qc o,h.obj qc=some o->o.ty=67->¬qc=id:=fun qc o dJ ht=>b5 dJ ho (by rw[ht];show(67:Nat)≠46;decide)
  refine⟨f1.obj s.rs.r (Ne.symm aaK),f1.obj s.rs.t (b5 s.rs.t ho (show(117:Nat)≠46 by decide)),A++(row,a)::B,.inr ⟨id,by rw[hid];simp,o1⟩,by simp[hA,hB],fun y hy=>?_⟩
  rcases List.mem_append.1 hy with hy |hy
  ·exact iU (h3 y (by simp[hy])) f1 ak
  ·rcases List.mem_cons.1 hy with hy |hy
   ·subst hy;exact iU ha f1 ak
   ·exact iU (h3 y (by simp[hy])) f1 ak
 have rR:=hR _ _ ss (s.fr.trans (f1.mono fun i (hi:i=id)=>.inr (hi ▸ i1))) (fun i off n he=>.inr (s.ins i off n he).1)
 have hv:=s.vo
 have hr:=s.rs.r
 simp only[dt.k1,e0,e5,e6,aT,al,aF,p5,hr,hv,aB,nS]
 simp only[zG,zB,zA,ah,hid,rk,aD,ho,cH,jf]
 have PW:(au (row,a)).length=6:=rfl
 refine⟨by simp[PW],⟨by omega,aM⟩,?_⟩
 rw[show List.drop 0 (au (row,a))=au (row,a) from rfl,List.take_of_length_le (by simp[PW])]
 rw[zY]
 exact⟨⟨.inr i1,by rcases ha with⟨rfl,_⟩ |⟨qc,rfl,_⟩<;>rfl,rfl,aaT⟩,rfl,rR⟩
theorem Wq(s:SI h0 h r tk L en dB br v p rv d0 inner (au (row,a)))(hM:∀id,SS r dB id->M id):∀id,SS r rv id->M id\/h0.next<=id:=by
 rintro id (h1 |⟨n,h1⟩)
 ·exact .inl (hM _ (.inl h1))
 ·exact .inr (s.ins id 0 n h1).1
theorem u6(hL:oM L)(hM:∀id,SS r dB id->M id)(s:SI h0 h r tk L en dB br v p rv d0 [] (au (row,a)))(ha:bw Arg.enc 2 67 h a row.args){gF:AV->Nat->AV}(e0:∀t,gF t 0=.ptr r 0)(e5:∀t,gF t 5=.ptr v 0)(e6:∀t,gF t 6=.sc (.int .i64 br.length))
  (hR:Fin h0 r tk L en dB br R (kq L en p row)) :
  aC Pg (fun id=>M id\/h0.next<=id) 62 [.ptr r 0,.sc (.string ⟨#[59]⟩)] h (fun t h'=>dt.k1 (fun id=>M id\/h0.next<=id) (Ab.cQ Pg [] R) (Ab.bF R) ⟨gF t,[]⟩ h') (Ab.bF R []):=by
 refine⟨(·=r),fun _ h _=>h ▸ .inl (hM r (.inl rfl)),BL rfl hL.len s.rs.r s.rs.t ?_⟩
 unfold kq at hR
 cases hs:mF L en p Ih with
 |error e=>
  rw[hs]at hR
  intro h' h1
  exact⟨rfl,hR _ (s.fr.trans (h1.mono fun _ h=>.inl (.inl h)))⟩
 |ok t=>
  rw[hs]at hR
  intro h' f1 r1
  exact HS (s.call f1 r1) (iU ha f1 s.a_call) (e0 _) (e5 _) (e6 _) hR
theorem zy{k:Nat}{d:Int}(hL:oM L)(hb:qt L en k)(hd:d=33-(k:Int))(hM:∀id,SS r dB id->M id)(s:SI h0 h r tk L en dB br v p rv d0 [] (au (row,a)))(ha:bw Arg.enc 2 67 h a row.args)(hp:p<=L.length)(hlen:br.length+1<=p)
  {gF:AV->AV->Nat->AV} (e0:∀t u,gF t u 0=.ptr r 0) (e5:∀t u,gF t u 5=.ptr v 0) (e6:∀t u,gF t u 6=.sc (.int .i64 br.length))
  (hR:Fin h0 r tk L en dB br R (mM L en k (nA L en k) p row)) :
  aC Pg (fun id=>M id\/h0.next<=id) 64 [.ptr r 0,.sc (.int .i64 d)] h (fun t h'=>ag (some 4) (.ptr v 0) fun u=>aG (some 1) u t h' (fun id=>M id\/h0.next<=id) fun Dj=>dt.k1 (fun id=>M id\/h0.next<=id) (Ab.cQ Pg [] R) (Ab.bF R) ⟨gF t u,[]⟩ Dj) (Ab.bF R []):=by
 refine⟨SS r rv,fun id hid _=>Wq s hM id hid,hb hd (fun _ h=>h) s.rs hp (by simp;omega) ?_⟩
 unfold mM at hR
 cases hs:FT L en k (nA L en k) p with
 |error e=>
  rw[hs]at hR
  intro h' h1
  refine⟨rfl,hR _ (s.fr.trans (h1.mono fun id hid=>?_))⟩
  rcases hid with h2 |⟨n,h2⟩
  ·exact .inl (.inl h2)
  ·exact .inr (s.ins id 0 n h2).1
 |ok x=>
  obtain⟨p',new⟩:=x
  rw[hs]at hR
  intro h' tF oQ f1 i1
  have s1:=s.body oQ f1 i1
  have a1:=iU ha f1 s.VB
  have s2:=s1.set 4 [.sc (.int .i64 new.length)]
  have a2:=iU a1 (Fr.refl.put (h:=h') (S:=(·=v)) (id:=v) (off:=4) (cs:=[.sc (.int .i64 new.length)]) (.inl rfl)) s1.DY
  show ag (some 4) (.ptr v 0) _
  simp only[al,aD,s1.vo,eJ,cH]
  refine⟨⟨.inr s.vn,rfl,rfl,by simp[au]⟩,?_⟩
  exact HS (row:={ row with rows:=new.length }) s2 a2 (e0 _ _) (e5 _ _) (e6 _ _) hR
end
end
section
open Go.Ab
def jg(h:AH)(x:AV)(rows:List Row)(a:AV):Prop:=∃l:List (Row×AV),bw au 6 46 h x l/\l.map (·.1)=rows/\∀y∈l,bw Arg.enc 2 67 h y.2 y.1.args/\∀id off n BZ n',a=.sl id off n->y.2≠.sl id BZ n'
theorem jg.to{h:AH}{x:AV}{rows:List Row}{a:AV}(hr:jg h x rows a):fh h x rows:=let ⟨l,h1,h2,h3⟩:=hr;⟨l,h1,h2,fun y hy=>(h3 y hy).1⟩
theorem jg.nil{h:AH}{x:AV}{rows:List Row}(hr:fh h x rows):jg h x rows aV:=let ⟨l,h1,h2,h3⟩:=hr;⟨l,h1,h2,fun y hy=>⟨h3 y hy,fun _ _ _ _ _ he=>by cases he⟩⟩
theorem jg.fr{h h':AH}{S:Nat->Prop}{x:AV}{rows:List Row}{a:AV}(hr:jg h x rows a)(hf:Fr h h' S)(hx:∀id,x=.sl id 0 rows.length->¬S id)(ha:∀id o,h.obj id=some o->o.ty=67->¬S id):jg h' x rows a:=by
 obtain⟨l,h1,h2,h3⟩:=hr
 exact⟨l,h1.bJ hf (fun id he=>hx id (by rw[he,<-h2];simp)),h2,fun y hy=>⟨iU (h3 y hy).1 hf ha,(h3 y hy).2⟩⟩
section
variable {h0 h h':AH} {r tk:Nat} {L:List Tok} {en:Int} {dB:AV} {br:List Row} {v p:Nat} {rv:AV} {d0:Row} {inner:List Row} {cells:List AV} {a y:AV} {acc:List Arg}
theorem jg.call(ra:jg h rv (br++d0::inner) a)(s:SI h0 h r tk L en dB br v p rv d0 inner cells)(hf:Fr h h' (·=r)):jg h' rv (br++d0::inner) a:=
 ra.fr hf (fun id he hid=>by
  obtain⟨_,_,o,ho,jF⟩:=s.rs.rows.id he
  exact b5 ho s.rs.r (by rw[jF];show(46:Nat)≠89;decide) hid) s.a_call
theorem jg.set(ra:jg h rv (br++d0::inner) a)(s:SI h0 h r tk L en dB br v p rv d0 inner cells)(off:Nat)(cs:List AV):jg (h.put v off cs) rv (br++d0::inner) a:=
 ra.fr (Fr.refl.put (S:=(·=v)) (.inl rfl)) (fun id he=>(s.ins id 0 _ he).2) s.DY
theorem SI.mw(s:SI h0 h r tk L en dB br v p rv d0 inner cells)(ra:jg h rv (br++d0::inner) a)(ha:bw Arg.enc 2 67 h a acc)(iF:cz (h0.next<=·) a)(hf:Fr h h' (fun i=>∃off n,a=.sl i off n))(hy:cz (h.next<=·) y) :
  SI h0 h' r tk L en dB br v p rv d0 inner cells/\jg h' rv (br++d0::inner) y:=by
 have aty:∀i,(∃off n,a=.sl i off n)->∃o,h.obj i=some o/\o.ty=67:=by
  rintro i ⟨off,n,he⟩
  rcases ha with⟨h1,_⟩ |⟨id,h1,ho⟩
  ·rw[h1]at he;cases he
  ·rw[h1]at he;cases he;exact⟨_,ho,rfl⟩
 have not:∀i o,h.obj i=some o->o.ty≠67->¬ ∃off n,a=.sl i off n:=fun i o ho cC he=>by
  obtain⟨o',dJ,ht⟩:=aty i he
  rw[ho]at dJ;cases dJ;exact cC ht
 have XA:jg h' rv (br++d0::inner) y:=by
  obtain⟨l,h1,h2,h3⟩:=ra
  refine⟨l,h1.bJ hf (fun id he=>?_),h2,fun z hz=>⟨?_,fun id off n BZ n' he oY=>?_⟩⟩
  ·rcases h1 with⟨h4,_⟩ |⟨qc,h4,ho⟩
   ·rw[h4]at he;cases he
   ·rw[h4]at he;cases he;exact not _ _ ho (show(46:Nat)≠67 by decide)
  ·obtain⟨h4,h5⟩:=h3 z hz
   rcases h4 with h4 |⟨id,h4,ho⟩
   ·exact .inl h4
   ·refine .inr ⟨id,h4,hf.obj ho ?_⟩
    rintro⟨off,n,he⟩
    exact h5 id off n _ _ he h4
  ·have h6:=hy id off n he
   obtain⟨h4,_⟩:=h3 z hz
   rcases h4 with⟨h4,_⟩ |⟨qc,h4,ho⟩
   ·rw[h4]at oY;cases oY
   ·rw[h4]at oY;cases oY
    have:=h.lt _ _ ho
    omega
 refine⟨⟨s.fr.trans (hf.mono fun id hid=>?_),⟨hf.obj s.rs.r (not _ _ s.rs.r (show(89:Nat)≠67 by decide)),hf.obj s.rs.t (not _ _ s.rs.t (show(117:Nat)≠67 by decide)),XA.to⟩,s.ins,hf.obj s.vo (not _ _ s.vo (show(46:Nat)≠67 by decide)),s.vn,s.rn⟩,XA⟩
 obtain⟨off,n,he⟩:=hid
 exact .inr (iF id off n he)
end
section
variable {h0 h:AH} {r tk:Nat} {L:List Tok} {en:Int} {dB:AV} {br:List Row} {v p:Nat} {rv:AV} {d0:Row} {inner:List Row} {cells:List AV} {M:Nat->Prop} {R:AE->AH->Prop}
theorem BK(hL:oM L)(hM:∀id,SS r dB id->M id)(s:SI h0 h r tk L en dB br v p rv d0 inner cells)(hc:cells.length=6){C:KT}{gF:AV->AV->Nat->AV}{off:Nat}(ho:off<6)
  (wG:∀e,fW L en p=.error e->∀h',Fr h0 h' (SS r dB)->R (.bV (dE e)) h')
  (cS:∀nm,fW L en p=.ok nm->∀u h',SI h0 h' r tk L en dB br v (p+1) rv d0 inner (putCells cells off [.sc (.string nm)])->C ⟨gF (.sc (.string nm)) u,[]⟩ h') :
  aC Pg (fun id=>M id\/h0.next<=id) 60 [.ptr r 0] h (fun t h'=>ag (some off) (.ptr v 0) fun u=>aG (some 1) u t h' (fun id=>M id\/h0.next<=id) fun Dj=>C ⟨gF t u,[]⟩ Dj) (Ab.bF R []):=by
 refine⟨(·=r),fun _ h _=>h ▸ .inl (hM r (.inl rfl)),B4 rfl hL.len s.rs.r s.rs.t ?_⟩
 cases hs:fW L en p with
 |error e=>intro h' h1;exact⟨rfl,wG e hs _ (s.fr.trans (h1.mono fun _ h=>.inl (.inl h)))⟩
 |ok nm=>
  intro h' f1 r1
  have s1:=s.call f1 r1
  have s2:=s1.set off [.sc (.string nm)]
  show ag (some off) (.ptr v 0) _
  simp only[al,aD,s1.vo,pz,cH,zG]
  exact⟨⟨.inr s.vn,rfl,rfl,by omega⟩,cS nm hs _ _ s2⟩
theorem vN(hL:oM L)(hM:∀id,SS r dB id->M id)(s:SI h0 h r tk L en dB br v p rv d0 inner cells)(hc:cells.length=6){C:KT}{gF:AV->AV->Nat->AV}{off:Nat}(ho:off<6)
  (wG:∀e,eI L en p=.error e->∀h',Fr h0 h' (SS r dB)->R (.bV (dE e)) h')
  (cS:∀nm,eI L en p=.ok nm->∀u h',SI h0 h' r tk L en dB br v (p+1) rv d0 inner (putCells cells off [.sc (.int .i64 nm)])->C ⟨gF (.sc (.int .i64 nm)) u,[]⟩ h') :
  aC Pg (fun id=>M id\/h0.next<=id) 61 [.ptr r 0] h (fun t h'=>ag (some off) (.ptr v 0) fun u=>aG (some 1) u t h' (fun id=>M id\/h0.next<=id) fun Dj=>C ⟨gF t u,[]⟩ Dj) (Ab.bF R []):=by
 refine⟨(·=r),fun _ h _=>h ▸ .inl (hM r (.inl rfl)),CJ rfl hL.len hL.Lz hL.JE s.rs.r s.rs.t ?_⟩
 cases hs:eI L en p with
 |error e=>intro h' h1;exact⟨rfl,wG e hs _ (s.fr.trans (h1.mono fun _ h=>.inl (.inl h)))⟩
 |ok nm=>
  intro h' f1 r1
  have s1:=s.call f1 r1
  have s2:=s1.set off [.sc (.int .i64 nm)]
  show ag (some off) (.ptr v 0) _
  simp only[al,aD,s1.vo,eJ,cH,zG]
  exact⟨⟨.inr s.vn,rfl,rfl,by omega⟩,cS nm hs _ _ s2⟩
end
end
section
open Go.Ab
section
variable {h0 h:AH} {r tk:Nat} {L:List Tok} {en:Int} {dB:AV} {br:List Row} {v p:Nat} {rv:AV} {d0:Row} {M:Nat->Prop} {R:AE->AH->Prop} {tm:Nat->AV}
structure TM (tm:Nat->AV) (r v:Nat) (d:Int) (n:Nat):Prop where
 e0:tm 0=.ptr r 0
 e1:tm 1=.sc (.int .i64 d)
 e5:tm 5=.ptr v 0
 e6:tm 6=.sc (.int .i64 n)
theorem TM.aj{tm:Nat->AV}{r v:Nat}{d:Int}{n:Nat}(t:TM tm r v d n):∀(l:List (Nat×AV)),(∀x∈l,6<x.1)->TM (aj tm l) r v d n
 |[],_=>t
 |x::l,h=>by
  have hx:=h x (by simp)
  exact TM.aj (tm:=Go.Ab.eZ tm x.1 x.2) ⟨by rw[lY (by omega)];exact t.e0,by rw[lY (by omega)];exact t.e1,by rw[lY (by omega)];exact t.e5,by rw[lY (by omega)];exact t.e6⟩ l (fun y hy=>h y (by simp[hy]))
theorem Oo{d:Int}(hL:oM L)(hM:∀id,SS r dB id->M id){k:ByteArray}{pl:Int}(s:SI h0 h r tk L en dB br v p rv d0 [] (au (⟨k,dG,[],0,0,pl⟩,aV)))(kS:TM tm r v d br.length)
  (hR:Fin h0 r tk L en dB br R (match fW L en p with |.error e=>.error e |.ok nm=>match eI L en (p+1) with |.error e=>.error e |.ok n=>kq L en (p+2) ⟨k,nm,[],n,0,pl⟩)) :
  dt.k4 (fun id=>M id\/h0.next<=id) (Ab.cQ Pg [] R) (Ab.bF R) ⟨tm,[]⟩ h:=by
 simp only[dt.k4,kS.e0,kS.e5]
 refine BK hL hM s rfl (gF:=fun t u=>aj tm [(73,.ptr r 0),(74,t),(75,u)]) (by decide) (fun e he=>?_) (fun nm hn u h1 s1=>?_)
 ·rw[he]at hR;exact hR
 rw[hn]at hR
 have t1:=kS.aj [(73,.ptr r 0),(74,.sc (.string nm)),(75,u)] (by simp)
 generalize aj tm [(73,.ptr r 0),(74,.sc (.string nm)),(75,u)]=pW at *
 simp only[dt.k3,t1.e0,t1.e5]
 refine vN hL hM s1 rfl (gF:=fun t u=>aj pW [(76,.ptr r 0),(77,t),(78,u)]) (by decide) (fun e he=>?_) (fun n hn u h2 s2=>?_)
 ·rw[he]at hR;exact hR
 rw[hn]at hR
 have t2:=t1.aj [(76,.ptr r 0),(77,.sc (.int .i64 n)),(78,u)] (by simp)
 generalize aj pW [(76,.ptr r 0),(77,.sc (.int .i64 n)),(78,u)]=fm at *
 simp only[dt.k2,t2.e0]
 have t3:=fun t=>t2.aj [(79,.ptr r 0),(80,t)] (by simp)
 exact u6 (row:=⟨k,nm,[],n,0,pl⟩) (a:=aV) hL hM s2 .nil (fun t=>(t3 t).e0) (fun t=>(t3 t).e5) (fun t=>(t3 t).e6) hR
theorem Sl{d:Int}{kk:Nat}(hL:oM L)(hb:qt L en kk)(hd:d=32-(kk:Int))(kF:kk<=32)(hlen:br.length+1<=p)(hM:∀id,SS r dB id->M id){k:ByteArray}{pl:Int}(s:SI h0 h r tk L en dB br v p rv d0 [] (au (⟨k,dG,[],0,0,pl⟩,aV)))(kS:TM tm r v d br.length)
  (hR:Fin h0 r tk L en dB br R (match eI L en p with |.error e=>.error e |.ok n=>mM L en kk (nA L en kk) (p+1) ⟨k,dG,[],n,0,pl⟩)) :
  dt.gY (fun id=>M id\/h0.next<=id) (Ab.cQ Pg [] R) (Ab.bF R) ⟨tm,[]⟩ h:=by
 simp only[dt.gY,kS.e0,kS.e5]
 refine vN hL hM s rfl (gF:=fun t u=>aj tm [(103,.ptr r 0),(104,t),(105,u)]) (by decide) (fun e he=>?_) (fun n hn u h2 s2=>?_)
 ·rw[he]at hR;exact hR
 rw[hn]at hR
 have aM:=AI hn
 have t2:=kS.aj [(103,.ptr r 0),(104,.sc (.int .i64 n)),(105,u)] (by simp)
 generalize aj tm [(103,.ptr r 0),(104,.sc (.int .i64 n)),(105,u)]=fm at *
 have hw:IntKind.i64.wrap (d+1)=d+1:=aL (by omega) (by omega)
 simp only[dt.ep,t2.e0,t2.e1,t2.e5,aR,hw]
 have t3:=fun t u=>t2.aj [(106,.ptr r 0),(107,.sc (.int .i64 d)),(108,.sc (.int .i64 (d+1))),(109,t),(110,u)] (by simp)
 exact zy (row:=⟨k,dG,[],n,0,pl⟩) (a:=aV) hL hb (by omega) hM s2 .nil (by omega) (by omega) (fun t u=>(t3 t u).e0) (fun t u=>(t3 t u).e5) (fun t u=>(t3 t u).e6) hR
theorem VT{d:Int}{kk:Nat}(hL:oM L)(hb:qt L en kk)(hd:d=32-(kk:Int))(kF:kk<=32)(hlen:br.length+1<=p)(hM:∀id,SS r dB id->M id){k:ByteArray}{pl:Int}(s:SI h0 h r tk L en dB br v p rv d0 [] (au (⟨k,dG,[],0,0,pl⟩,aV)))(kS:TM tm r v d br.length)
  (hR:Fin h0 r tk L en dB br R (match fW L en p with |.error e=>.error e |.ok nm=>match eI L en (p+1) with |.error e=>.error e |.ok n=>mM L en kk (nA L en kk) (p+2) ⟨k,nm,[],n,0,pl⟩)) :
  dt.iR (fun id=>M id\/h0.next<=id) (Ab.cQ Pg [] R) (Ab.bF R) ⟨tm,[]⟩ h:=by
 simp only[dt.iR,kS.e0,kS.e5]
 refine BK hL hM s rfl (gF:=fun t u=>aj tm [(113,.ptr r 0),(114,t),(115,u)]) (by decide) (fun e he=>?_) (fun nm hn u h1 s1=>?_)
 ·rw[he]at hR;exact hR
 rw[hn]at hR
 have t1:=kS.aj [(113,.ptr r 0),(114,.sc (.string nm)),(115,u)] (by simp)
 generalize aj tm [(113,.ptr r 0),(114,.sc (.string nm)),(115,u)]=pW at *
 simp only[dt.jc,t1.e0,t1.e5]
 refine vN hL hM s1 rfl (gF:=fun t u=>aj pW [(116,.ptr r 0),(117,t),(118,u)]) (by decide) (fun e he=>?_) (fun n hn u h2 s2=>?_)
 ·rw[he]at hR;exact hR
 rw[hn]at hR
 have aM:=AI hn
 have t2:=t1.aj [(116,.ptr r 0),(117,.sc (.int .i64 n)),(118,u)] (by simp)
 generalize aj pW [(116,.ptr r 0),(117,.sc (.int .i64 n)),(118,u)]=fm at *
 have hw:IntKind.i64.wrap (d+1)=d+1:=aL (by omega) (by omega)
 simp only[dt.jh,t2.e0,t2.e1,t2.e5,aR,hw]
 have t3:=fun t u=>t2.aj [(119,.ptr r 0),(120,.sc (.int .i64 d)),(121,.sc (.int .i64 (d+1))),(122,t),(123,u)] (by simp)
 exact zy (row:=⟨k,nm,[],n,0,pl⟩) (a:=aV) hL hb (by omega) hM s2 .nil (by omega) (by omega) (fun t u=>(t3 t u).e0) (fun t u=>(t3 t u).e5) (fun t u=>(t3 t u).e6) hR
end
end
section
open Go.Ab
section
variable {h0 h:AH} {r tk:Nat} {L:List Tok} {en:Int} {dB:AV} {br:List Row} {v p:Nat} {rv:AV} {d0:Row} {M:Nat->Prop} {R:AE->AH->Prop} {tm:Nat->AV}
theorem BJ{inner:List Row}{k nm:ByteArray}{acc:List Arg}{pl:Int}{a:AV}{x:Arg}{W:Nat->Prop}{K:AV->AV->AH->Prop}(hW:∀id,h0.next<=id->W id)(s:SI h0 h r tk L en dB br v p rv d0 inner (au (⟨k,nm,acc,0,0,pl⟩,a)))
  (ra:jg h rv (br++d0::inner) a) (ha:bw Arg.enc 2 67 h a acc) (iF:cz (h0.next<=·) a) (hn:acc.length<=65536)
  (hK:∀v1 y h',SI h0 h' r tk L en dB br v p rv d0 inner (au (⟨k,nm,acc++[x],0,0,pl⟩,y))->jg h' rv (br++d0::inner) y->bw Arg.enc 2 67 h' y (acc++[x])->cz (h0.next<=·) y->K v1 y h') :
  db (some (2,67,[.string ⟨#[]⟩,.int .i64 0])) 1 [(0,.agg x.enc)] h fun v1 h4=>dV (some (2,24,67)) a v1 h4 W fun y h5=>aG (some 1) (.ptr v 2) y h5 W fun h6=>K v1 y h6:=by
 refine mP (f:=Arg.enc) (K:=fun v1 y h5=>aG (some 1) (.ptr v 2) y h5 W fun h6=>K v1 y h6) Arg.ci (by decide) rfl Arg.gL (by decide) ha (fun id off n he=>hW _ (iF id off n he)) (by omega) ?_
 intro v1 y h5 hy iy f5
 obtain⟨s5,ra5⟩:=s.mw ra ha iF f5 iy
 obtain⟨id,hid⟩:=hy.sl (by simp)
 have iy':cz (h0.next<=·) y:=fun i off n he=>zR (zR s.vn (by have:=h.lt _ _ s.vo;omega)) (iy i off n he)
 have s6:=s5.set 2 [y]
 have G5:=ra5.set s5 2 [y]
 have AT:=iU hy (Fr.refl.put (h:=h5) (S:=(·=v)) (id:=v) (off:=2) (cs:=[y]) (.inl rfl)) s5.DY
 subst hid
 simp only[aD,s5.vo,LM,cH]
 exact⟨⟨hW _ s.vn,rfl,rfl,by simp[au]⟩,hK _ _ _ s6 G5 AT iy'⟩
theorem Ou{d:Int}{kk:Nat}(hL:oM L)(hb:qt L en kk)(hd:d=32-(kk:Int))(kF:kk<=32)(hlen:br.length+1<=p)(hM:∀id,SS r dB id->M id){k:ByteArray}{pl:Int}(s:SI h0 h r tk L en dB br v p rv d0 [] (au (⟨k,dG,[],0,0,pl⟩,aV)))(kS:TM tm r v d br.length)
  (hR:Fin h0 r tk L en dB br R (match fW L en p with |.error e=>.error e |.ok nm=>match mg L en (L.length+1) (p+1) [] with |.error e=>.error e |.ok (l,p')=>mM L en kk (nA L en kk) p' ⟨k,nm,l,0,0,pl⟩)) :
  dt.dI (fun id=>M id\/h0.next<=id) (Ab.cQ Pg [] R) (Ab.bF R) ⟨tm,[]⟩ h:=by
 simp only[dt.dI,kS.e0,kS.e5]
 refine BK hL hM s rfl (gF:=fun t u=>aj tm [(83,.ptr r 0),(84,t),(85,u)]) (by decide) (fun e he=>?_) (fun nm hn u h1 s1=>?_)
 ·rw[he]at hR;exact hR
 rw[hn]at hR
 have aM:=(rK hn).1
 have t1:=kS.aj [(83,.ptr r 0),(84,.sc (.string nm)),(85,u)] (by simp)
 generalize aj tm [(83,.ptr r 0),(84,.sc (.string nm)),(85,u)]=pW at *
 unfold dt.k9
 simp only at hR
 generalize hX:mg L en (L.length+1) (p+1) []=X at hR
 have wK:=hL.len
 refine nK (ι:=Nat×Nat×List Arg) (fun x s' h'=>s'.ds=[]/\TM s'.tm r v d br.length/\x.2.1<=L.length/\L.length<x.2.1+x.1/\x.2.2.length<=x.2.1/\br.length+1<=x.2.1/\mg L en x.1 x.2.1 x.2.2=X /\
  ∃a,SI h0 h' r tk L en dB br v x.2.1 rv d0 [] (au (⟨k,nm,x.2.2,0,0,pl⟩,a))/\jg h' rv (br++d0::[]) a/\bw Arg.enc 2 67 h' a x.2.2/\cz (h0.next<=·) a) (fun x=>x.1) (L.length+1,p+1,[]) ?_ ?_
 ·exact⟨rfl,t1,by simp only;omega,by simp only;omega,by simp,by simp only;omega,hX,aV,s1,.nil s1.rs.rows,.nil,fun _ _ _ he=>by cases he⟩
 rintro⟨n,q,acc⟩ ⟨fm,ds⟩ h2 ⟨rfl,t2,hq,AY,tp,Yh,nt,a,s2,JY,o_,IP⟩
 simp only at t2 hq AY tp Yh nt s2 JY o_
 rw[dt.l1]
 cases n with
 |zero=>omega
 |succ n=>
  simp only[mg]at nt
  simp only[dt.k8,t2.e0]
  refine⟨fun _=>False,fun _ h=>h.elim,za s2.rs.r s2.rs.t ?_⟩
  have t3:=fun b=>t2.aj [(86,.ptr r 0),(87,.sc (.bool b))] (by simp)
  cases jH:nh L q with
  |false=>
   simp only[jH,zE,if_false]at nt
   rw[<-nt]at hR
   have FH:aj fm [(86,.ptr r 0),(87,.sc (.bool false))] 87=.sc (.bool false):=by simp
   have t4:=t3 false
   show dt.k7 _ _ _ ⟨aj fm [(86,.ptr r 0),(87,.sc (.bool false))],[]⟩ h2
   generalize aj fm [(86,.ptr r 0),(87,.sc (.bool false))]=ot at *
   have hw:IntKind.i64.wrap (d+1)=d+1:=aL (by omega) (by omega)
   simp only[dt.k7,FH,ao,zE,zC,zH,zD,b_,eG,zV]
   simp only[dt.k5,t4.e0,t4.e1,t4.e5,aR,hw]
   have t5:=fun t u=>t4.aj [(96,.ptr r 0),(97,.sc (.int .i64 d)),(98,.sc (.int .i64 (d+1))),(99,t),(100,u)] (by simp)
   exact zy (row:=⟨k,nm,acc,0,0,pl⟩) (a:=a) hL hb (by omega) hM s2 o_ hq Yh (fun t u=>(t5 t u).e0) (fun t u=>(t5 t u).e5) (fun t u=>(t5 t u).e6) hR
  |true=>
   simp only[jH,zV]at nt
   have FH:aj fm [(86,.ptr r 0),(87,.sc (.bool true))] 87=.sc (.bool true):=by simp
   have t4:=t3 true
   show dt.k7 _ _ _ ⟨aj fm [(86,.ptr r 0),(87,.sc (.bool true))],[]⟩ h2
   generalize aj fm [(86,.ptr r 0),(87,.sc (.bool true))]=ot at *
   simp only[dt.k7,FH,ao,zF,zC,zI,zD]
   simp only[dt.k6]
   refine⟨fun _=>v,by simp[s2.vo],?_⟩
   simp only[t4.e5,t4.e0,al,aF,s2.vo,aB,zG]
   simp only[au,zB,zA,ah]
   refine⟨by simp,(·=r),fun id hid _=>?_,B4 rfl hL.len s2.rs.r s2.rs.t ?_⟩
   ·have:=s2.vr
    exact hid ▸ ⟨.inl (hM r (.inl rfl)),by simp;exact fun e=>this e.symm⟩
   cases hs:fW L en q with
   |error e=>
    rw[hs]at nt
    rw[<-nt]at hR
    intro h' f3
    exact⟨rfl,hR _ (s2.fr.trans (f3.mono fun _ h=>.inl (.inl h)))⟩
   |ok Pa=>
    rw[hs]at nt
    simp only at nt
    intro h3 f3 r3
    have s3:=s2.call f3 r3
    have S6:=JY.call s2 f3
    have UM:=iU o_ f3 s2.a_call
    have aaF:=(rK hs).1
    refine⟨Arg.enc ⟨Pa,-1⟩,rfl,?_⟩
    show db (some (2,67,[.string ⟨#[]⟩,.int .i64 0])) 1 [(0,.agg (Arg.enc ⟨Pa,-1⟩))] h3 _
    refine BJ (x:=⟨Pa,-1⟩) (fun id hid=>Or.inr hid) s3 S6 UM IP (by omega) ?_
    intro v1 y h6 s6 G5 AT Ps
    simp only[b_]
    exact⟨(n,q+1,acc++[⟨Pa,-1⟩]),by simp,trivial,t4.aj _ (by simp),by simp only;omega,by simp only;omega,by simp;omega,by simp only;omega,nt,y,s6,G5,AT,Ps⟩
theorem Oq{d:Int}(hL:oM L)(hM:∀id,SS r dB id->M id)(hp:p<=L.length){k:ByteArray}{pl:Int}(s:SI h0 h r tk L en dB br v p rv d0 [] (au (⟨k,dG,[],0,0,pl⟩,aV)))(kS:TM tm r v d br.length)
  (hR:Fin h0 r tk L en dB br R (match jX L en p with |.error e=>.error e |.ok (a,p1)=>match jX L en p1 with |.error e=>.error e |.ok (b,p2)=>kq L en p2 ⟨k,dG,[a,b],0,0,pl⟩)) :
  dt.jb (fun id=>M id\/h0.next<=id) (Ab.cQ Pg [] R) (Ab.bF R) ⟨tm,[]⟩ h:=by
 simp only[dt.jb]
 refine⟨fun _=>v,by simp[s.vo],?_⟩
 simp only[kS.e5,kS.e0,al,aF,s.vo,aB,zG]
 have hW:∀id,id=r->id<h.next->(M id\/h0.next<=id)/\∀i∈[1],id≠(fun _=>v) i:=fun id hid _=>by
  have:=s.vr
  exact hid ▸ ⟨.inl (hM r (.inl rfl)),by simp;exact fun e=>this e.symm⟩
 refine⟨by simp,(·=r),hW,pO rfl hL.len hp hL.Lz hL.JE s.rs.r s.rs.t ?_⟩
 cases h1:jX L en p with
 |error e=>
  rw[h1]at hR
  intro h' f3
  exact⟨rfl,hR _ (s.fr.trans (f3.mono fun _ h=>.inl (.inl h)))⟩
 |ok x=>
  obtain⟨a,p1⟩:=x
  rw[h1]at hR
  simp only at hR
  intro h3 f3 r3
  have s3:=s.call f3 r3
  have b1:=ry h1
  refine⟨(·=r),fun id hid aM=>?_,pO rfl hL.len b1.2 hL.Lz hL.JE s3.rs.r s3.rs.t ?_⟩
  ·have:=s.vr
   exact hid ▸ ⟨.inl (hM r (.inl rfl)),by simp;exact fun e=>this e.symm⟩
  cases h2:jX L en p1 with
  |error e=>
   rw[h2]at hR
   intro h' f4
   exact⟨rfl,hR _ (s3.fr.trans (f4.mono fun _ h=>.inl (.inl h)))⟩
  |ok x=>
   obtain⟨b,p2⟩:=x
   rw[h2]at hR
   simp only at hR
   intro h4 f4 r4
   have s4:=s3.call f4 r4
   show db (some (2,67,[.string ⟨#[]⟩,.int .i64 0,.string ⟨#[]⟩,.int .i64 0])) 2 [(0,.agg a.enc),(1,.agg b.enc)] h4 _
   refine WX (f:=Arg.enc) Arg.ci (by decide) rfl Arg.gL (by decide) ?_
   intro v1 y h5 hy iy f5
   have s5:=s4.quiet f5
   obtain⟨id,hid⟩:=hy.sl (by simp)
   have s6:=s5.set 2 [y]
   have AT:=iU hy (Fr.refl.put (h:=h5) (S:=(·=v)) (id:=v) (off:=2) (cs:=[y]) (.inl rfl)) s5.DY
   have ey:cy y=some [y]:=by subst hid;rfl
   simp only[aD,s5.vo,ey,cH]
   refine⟨⟨.inr s.vn,by subst hid;rfl,rfl,by simp[au]⟩,?_⟩
   have t4:=kS.aj [(126,.ptr v 2),(127,aV),(128,.ptr r 0),(130,.ptr r 0),(129,.agg a.enc),(131,.agg b.enc),(132,v1),(133,y),(134,.ptr v 2)] (by simp)
   show dt.jR _ _ _ ⟨aj tm [(126,.ptr v 2),(127,aV),(128,.ptr r 0),(130,.ptr r 0),(129,.agg a.enc),(131,.agg b.enc),(132,v1),(133,y),(134,.ptr v 2)],[]⟩ _
   generalize aj tm [(126,.ptr v 2),(127,aV),(128,.ptr r 0),(130,.ptr r 0),(129,.agg a.enc),(131,.agg b.enc),(132,v1),(133,y),(134,.ptr v 2)]=ot at *
   simp only[dt.jR,t4.e0]
   have t5:=fun t=>t4.aj [(135,.ptr r 0),(136,t)] (by simp)
   exact u6 (row:=⟨k,dG,[a,b],0,0,pl⟩) (a:=y) hL hM s6 AT (fun t=>(t5 t).e0) (fun t=>(t5 t).e5) (fun t=>(t5 t).e6) hR
theorem L4{d:Int}(hL:oM L)(hM:∀id,SS r dB id->M id)(hp:p<=L.length){k:ByteArray}{pl:Int}(s:SI h0 h r tk L en dB br v p rv d0 [] (au (⟨k,dG,[],0,0,pl⟩,aV)))(kS:TM tm r v d br.length)
  (hR:Fin h0 r tk L en dB br R (match jX L en p with |.error e=>.error e |.ok (a,p1)=>kq L en p1 ⟨k,dG,[a],0,0,pl⟩)) :
  dt.oU (fun id=>M id\/h0.next<=id) (Ab.cQ Pg [] R) (Ab.bF R) ⟨tm,[]⟩ h:=by
 simp only[dt.oU]
 refine⟨fun _=>v,by simp[s.vo],?_⟩
 simp only[kS.e5,kS.e0,al,aF,s.vo,aB,zG]
 refine⟨by simp,(·=r),fun id hid _=>?_,pO rfl hL.len hp hL.Lz hL.JE s.rs.r s.rs.t ?_⟩
 ·have:=s.vr
  exact hid ▸ ⟨.inl (hM r (.inl rfl)),by simp;exact fun e=>this e.symm⟩
 cases h1:jX L en p with
 |error e=>
  rw[h1]at hR
  intro h' f3
  exact⟨rfl,hR _ (s.fr.trans (f3.mono fun _ h=>.inl (.inl h)))⟩
 |ok x=>
  obtain⟨a,p1⟩:=x
  rw[h1]at hR
  simp only at hR
  intro h4 f4 r4
  have s4:=s.call f4 r4
  show db (some (2,67,[.string ⟨#[]⟩,.int .i64 0])) 1 [(0,.agg a.enc)] h4 _
  refine BJ (x:=a) (fun id hid=>Or.inr hid) s4 (.nil s4.rs.rows) .nil (fun _ _ _ he=>by cases he) (by simp) ?_
  intro v1 y h6 s6 G5 AT Ps
  have t4:=kS.aj [(139,.ptr v 2),(140,aV),(141,.ptr r 0),(142,.agg a.enc),(143,v1),(144,y),(145,.ptr v 2)] (by simp)
  show dt.oV _ _ _ ⟨aj tm [(139,.ptr v 2),(140,aV),(141,.ptr r 0),(142,.agg a.enc),(143,v1),(144,y),(145,.ptr v 2)],[]⟩ _
  generalize aj tm [(139,.ptr v 2),(140,aV),(141,.ptr r 0),(142,.agg a.enc),(143,v1),(144,y),(145,.ptr v 2)]=ot at *
  simp only[dt.oV,t4.e0]
  have t5:=fun t=>t4.aj [(146,.ptr r 0),(147,t)] (by simp)
  exact u6 (row:=⟨k,dG,[a],0,0,pl⟩) (a:=y) hL hM s6 AT (fun t=>(t5 t).e0) (fun t=>(t5 t).e5) (fun t=>(t5 t).e6) hR
theorem Sk{d:Int}{tc:Nat}{t:Tok}(hL:oM L)(hM:∀id,SS r dB id->M id)(hp:p<=L.length)(hlen:br.length+1<=p)(UD:tc≠v)(e4:tm 4=.ptr tc 0)(hc:h.obj tc=some (v8 t)){pl:Int}(s:SI h0 h r tk L en dB br v p rv d0 [] (au (⟨t.text,dG,[],0,0,pl⟩,aV)))(kS:TM tm r v d br.length)
  (hR:Fin h0 r tk L en dB br R (match oL L en (L.length+1) p [] with |.error e=>.error e |.ok (l,p')=>kq L en p' ⟨bP,t.text,l,0,0,pl⟩)) :
  dt.sH (fun id=>M id\/h0.next<=id) (Ab.cQ Pg [] R) (Ab.bF R) ⟨tm,[]⟩ h:=by
 simp only[dt.sH]
 refine⟨fun _=>tc,by simp[hc],?_⟩
 simp only[kS.e5,e4,al,aF,hc,aB,zG,zB,zA,ah,aD,s.vo,pz,cH]
 refine⟨by simp,⟨⟨.inr s.vn,by simp;exact fun e=>UD e.symm⟩,rfl,rfl,by simp[au]⟩,?_⟩
 have s1:=s.set 0 [.sc (.string bP)]
 simp only[s1.vo,cH]
 refine⟨⟨.inr s.vn,rfl,rfl,by simp[au]⟩,?_⟩
 have s2:=s1.set 1 [.sc (.string t.text)]
 have t1:=kS.aj [(55,.ptr tc 1),(56,.sc (.string t.text)),(57,.ptr v 0),(58,.ptr v 1)] (by simp)
 show dt.oT _ _ _ ⟨aj tm [(55,.ptr tc 1),(56,.sc (.string t.text)),(57,.ptr v 0),(58,.ptr v 1)],[]⟩ _
 generalize aj tm [(55,.ptr tc 1),(56,.sc (.string t.text)),(57,.ptr v 0),(58,.ptr v 1)]=pW at *
 generalize (h.put v 0 [.sc (.string bP)]).put v 1 [.sc (.string t.text)]=h1 at *
 unfold dt.oT
 generalize hX:oL L en (L.length+1) p []=X at hR
 have wK:=hL.len
 refine nK (ι:=Nat×Nat×List Arg) (fun x s' h'=>s'.ds=[]/\TM s'.tm r v d br.length/\x.2.1<=L.length/\L.length<x.2.1+x.1/\x.2.2.length<=x.2.1/\oL L en x.1 x.2.1 x.2.2=X /\
  ∃a,SI h0 h' r tk L en dB br v x.2.1 rv d0 [] (au (⟨bP,t.text,x.2.2,0,0,pl⟩,a))/\jg h' rv (br++d0::[]) a/\bw Arg.enc 2 67 h' a x.2.2/\cz (h0.next<=·) a) (fun x=>x.1) (L.length+1,p,[]) ?_ ?_
 ·exact⟨rfl,t1,hp,by simp only;omega,by simp,hX,aV,s2,.nil s2.rs.rows,.nil,fun _ _ _ he=>by cases he⟩
 rintro⟨n,q,acc⟩ ⟨fm,ds⟩ h2 ⟨rfl,t2,hq,AY,tp,nt,a,s2,JY,o_,IP⟩
 simp only at t2 hq AY tp nt s2 JY o_
 rw[dt.l2]
 cases n with
 |zero=>omega
 |succ n=>
  simp only[oL]at nt
  simp only[dt.p_,t2.e0]
  refine⟨fun _=>False,fun _ h=>h.elim,za s2.rs.r s2.rs.t ?_⟩
  have t3:=fun b=>t2.aj [(59,.ptr r 0),(60,.sc (.bool b))] (by simp)
  cases jH:nh L q with
  |false=>
   simp only[jH,zE,if_false]at nt
   rw[<-nt]at hR
   have FH:aj fm [(59,.ptr r 0),(60,.sc (.bool false))] 60=.sc (.bool false):=by simp
   have t4:=t3 false
   show dt.mQ _ _ _ ⟨aj fm [(59,.ptr r 0),(60,.sc (.bool false))],[]⟩ h2
   generalize aj fm [(59,.ptr r 0),(60,.sc (.bool false))]=ot at *
   simp only[dt.mQ,FH,ao,zE,zC,zH,zD,b_,eG,zV]
   simp only[dt.oE,t4.e0]
   have t5:=fun t=>t4.aj [(68,.ptr r 0),(69,t)] (by simp)
   exact u6 (row:=⟨bP,t.text,acc,0,0,pl⟩) (a:=a) hL hM s2 o_ (fun t=>(t5 t).e0) (fun t=>(t5 t).e5) (fun t=>(t5 t).e6) hR
  |true=>
   simp only[jH,zV]at nt
   have FH:aj fm [(59,.ptr r 0),(60,.sc (.bool true))] 60=.sc (.bool true):=by simp
   have t4:=t3 true
   show dt.mQ _ _ _ ⟨aj fm [(59,.ptr r 0),(60,.sc (.bool true))],[]⟩ h2
   generalize aj fm [(59,.ptr r 0),(60,.sc (.bool true))]=ot at *
   simp only[dt.mQ,FH,ao,zF,zC,zI,zD]
   simp only[dt.qa]
   refine⟨fun _=>v,by simp[s2.vo],?_⟩
   simp only[t4.e5,t4.e0,al,aF,s2.vo,aB,zG]
   simp only[au,zB,zA,ah]
   refine⟨by simp,(·=r),fun id hid _=>?_,pO rfl hL.len hq hL.Lz hL.JE s2.rs.r s2.rs.t ?_⟩
   ·have:=s2.vr
    exact hid ▸ ⟨.inl (hM r (.inl rfl)),by simp;exact fun e=>this e.symm⟩
   cases hs:jX L en q with
   |error e=>
    rw[hs]at nt
    rw[<-nt]at hR
    intro h' f3
    exact⟨rfl,hR _ (s2.fr.trans (f3.mono fun _ h=>.inl (.inl h)))⟩
   |ok x=>
    obtain⟨x,q2⟩:=x
    rw[hs]at nt
    simp only at nt
    intro h3 f3 r3
    have s3:=s2.call f3 r3
    have S6:=JY.call s2 f3
    have UM:=iU o_ f3 s2.a_call
    have aaF:=ry hs
    show db (some (2,67,[.string ⟨#[]⟩,.int .i64 0])) 1 [(0,.agg x.enc)] h3 _
    refine BJ (x:=x) (fun id hid=>Or.inr hid) s3 S6 UM IP (by omega) ?_
    intro v1 y h6 s6 G5 AT Ps
    simp only[b_]
    exact⟨(n,q2,acc++[x]),by simp,trivial,t4.aj _ (by simp),by simp only;omega,by simp only;omega,by simp;omega,nt,y,s6,G5,AT,Ps⟩
end
end
section
open Go.Ab
structure TX (tm:Nat->AV) (r v:Nat) (d:Int) (n tc:Nat) (t:Tok):Prop where
 m:TM tm r v d n
 e4:tm 4=.ptr tc 0
 Ds:tm 54=.sc (.string t.text)
theorem TX.two{tm:Nat->AV}{r v:Nat}{d:Int}{n tc:Nat}{t:Tok}(x:TX tm r v d n tc t){i j:Nat}(hi:54<i)(hj:54<j)(a b:AV):TX (aj tm [(i,a),(j,b)]) r v d n tc t/\aj tm [(i,a),(j,b)] j=b:=by
 refine⟨⟨x.m.aj _ (by simp;omega),?_,?_⟩,by simp only[aj];exact Mi _ _ _⟩
 ·simp only[aj];rw[lY (by omega),lY (by omega)];exact x.e4
 ·simp only[aj];rw[lY (by omega),lY (by omega)];exact x.Ds
section
variable {h0 h:AH} {r tk:Nat} {L:List Tok} {en:Int} {dB:AV} {br:List Row} {v p:Nat} {rv:AV} {d0:Row} {M:Nat->Prop} {R:AE->AH->Prop} {tm:Nat->AV}
theorem Jq{d:Int}{kk tc:Nat}{t:Tok}(hL:oM L)(hb:qt L en kk)(hd:d=32-(kk:Int))(kF:kk<=32)(hp:p+1<=L.length)(hlen:br.length<=p)(hM:∀id,SS r dB id->M id)(UD:tc≠v)(hc:h.obj tc=some (v8 t))
  (s:SI h0 h r tk L en dB br v (p+1) rv d0 [] (au (⟨t.text,dG,[],0,0,t.at_⟩,aV))) (x0:TX tm r v d br.length tc t)
  (hR:Fin h0 r tk L en dB br R (xm L en kk (nA L en kk) p t)) :
  dt.ye (fun id=>M id\/h0.next<=id) (Ab.cQ Pg [] R) (Ab.bF R) ⟨tm,[]⟩ h:=by
 unfold xm at hR
 have ns:br.length+1<=p+1:=by omega
 have aq:∀(tm:Nat->AV),TX tm r v d br.length tc t->tm 70=.sc (.bool true)->(t.text=aX\/t.text=bK)->dt.tK (fun id=>M id\/h0.next<=id) (Ab.cQ Pg [] R) (Ab.bF R) ⟨tm,[]⟩ h:=by
  intro tm x e EZ
  rw[zX EZ]at hR
  simp only[dt.tK,e,ao,zD,zF,zC,zI]
  exact Oo hL hM s x.m hR
 simp only[dt.ye,x0.Ds,cU]
 obtain⟨x1,e1⟩:=x0.two (i:=71) (j:=70) (by decide) (by decide) (.sc (.bool (decide (t.text=aX)))) (.sc (.bool (decide (t.text=aX))))
 generalize aj tm [(71,.sc (.bool (decide (t.text=aX)))),(70,.sc (.bool (decide (t.text=aX))))]=pW at *
 simp only[dt.CT,e1,ao,x1.Ds,cU]
 refine⟨fun h1=>aq pW x1 (by rw[e1,h1]) (.inl (of_decide_eq_true h1)),fun h1=>?_⟩
 obtain⟨x2,e2⟩:=x1.two (i:=72) (j:=70) (by decide) (by decide) (.sc (.bool (decide (t.text=bK)))) (.sc (.bool (decide (t.text=bK))))
 generalize aj pW [(72,.sc (.bool (decide (t.text=bK)))),(70,.sc (.bool (decide (t.text=bK))))]=fm at *
 by_cases h2:t.text=bK
 ·exact aq fm x2 (by rw[e2,zL h2]) (.inr h2)
 rw[zW (fun EZ=>EZ.elim (of_decide_eq_false h1) h2)]at hR
 clear aq
 rw[zK h2]at e2
 simp only[dt.tK,e2,ao,zE,zC,zD,zH]
 simp only[dt.yf,x2.Ds,cU]
 obtain⟨x3,e3⟩:=x2.two (i:=82) (j:=81) (by decide) (by decide) (.sc (.bool (decide (t.text=aY)))) (.sc (.bool (decide (t.text=aY))))
 generalize aj fm [(82,.sc (.bool (decide (t.text=aY)))),(81,.sc (.bool (decide (t.text=aY))))]=ot at *
 simp only[dt.CU,e3,ao]
 refine⟨fun h3=>?_,fun h3=>?_⟩
 ·rw[zX (of_decide_eq_true h3)]at hR
  exact Ou hL hb hd kF ns hM s x3.m hR
 rw[zW (of_decide_eq_false h3)]at hR
 simp only[dt.yg,x3.Ds,cU]
 obtain⟨x4,e4⟩:=x3.two (i:=102) (j:=101) (by decide) (by decide) (.sc (.bool (decide (t.text=aK)))) (.sc (.bool (decide (t.text=aK))))
 generalize aj ot [(102,.sc (.bool (decide (t.text=aK)))),(101,.sc (.bool (decide (t.text=aK))))]=SU at *
 simp only[dt.wm,e4,ao]
 refine⟨fun h3=>?_,fun h4=>?_⟩
 ·rw[zX (of_decide_eq_true h3)]at hR
  exact Sl hL hb hd kF ns hM s x4.m hR
 rw[zW (of_decide_eq_false h4)]at hR
 simp only[dt.yh,x4.Ds,cU]
 obtain⟨x5,e5⟩:=x4.two (i:=112) (j:=111) (by decide) (by decide) (.sc (.bool (decide (t.text=c9)))) (.sc (.bool (decide (t.text=c9))))
 generalize aj SU [(112,.sc (.bool (decide (t.text=c9)))),(111,.sc (.bool (decide (t.text=c9))))]=tm5 at *
 simp only[dt.yi,e5,ao]
 refine⟨fun h3=>?_,fun h5=>?_⟩
 ·rw[zX (of_decide_eq_true h3)]at hR
  exact VT hL hb hd kF ns hM s x5.m hR
 rw[zW (of_decide_eq_false h5)]at hR
 simp only[dt.AP,x5.Ds,cU]
 obtain⟨x6,e6⟩:=x5.two (i:=125) (j:=124) (by decide) (by decide) (.sc (.bool (decide (t.text=be)))) (.sc (.bool (decide (t.text=be))))
 generalize aj tm5 [(125,.sc (.bool (decide (t.text=be)))),(124,.sc (.bool (decide (t.text=be))))]=tm6 at *
 simp only[dt.yj,e6,ao]
 refine⟨fun h3=>?_,fun h6=>?_⟩
 ·rw[zX (of_decide_eq_true h3)]at hR
  exact Oq hL hM hp s x6.m hR
 rw[zW (of_decide_eq_false h6)]at hR
 simp only[dt.CV,x6.Ds,cU]
 obtain⟨x7,e7⟩:=x6.two (i:=138) (j:=137) (by decide) (by decide) (.sc (.bool (decide (t.text=ch)))) (.sc (.bool (decide (t.text=ch))))
 generalize aj tm6 [(138,.sc (.bool (decide (t.text=ch)))),(137,.sc (.bool (decide (t.text=ch))))]=tm7 at *
 simp only[dt.AQ,e7,ao]
 refine⟨fun h3=>?_,fun h7=>?_⟩
 ·rw[zX (of_decide_eq_true h3)]at hR
  exact L4 hL hM hp s x7.m hR
 rw[zW (of_decide_eq_false h7)]at hR
 exact Sk hL hM hp ns UD x7.e4 hc s x7.m hR
end
section
variable {h:AH} {r tk:Nat} {L:List Tok} {en:Int} {rv:AV} {rows:List Row} {p:Nat} {M:Nat->Prop} {R:AE->AH->Prop}
theorem Ot{d:Int}{kk tc:Nat}{t:Tok}{h1:AH}{tm:Nat->AV}(hL:oM L)(hb:qt L en kk)(hd:d=32-(kk:Int))(kF:kk<=32)(hp:p+1<=L.length)(hlen:rows.length<=p)(hM:∀id,SS r rv id->M id)
  (lI:r<h.next) (e0:tm 0=.ptr r 0) (e1:tm 1=.sc (.int .i64 d)) (e4:tm 4=.ptr tc 0) (hc:h1.obj tc=some (v8 t)) (f1:Fr h h1 (·=r)) (ss:RS h1 r tk L en (p+1) rv rows)
  (ZS:∀id off n,rv=.sl id off n->id<h.next)
  (hR:Fin h r tk L en rv rows R (xm L en kk (nA L en kk) p t)) :
  dt.qI (fun id=>M id\/h.next<=id) (Ab.cQ Pg [] R) (Ab.bF R) ⟨tm,[]⟩ h1:=by
 have wK:=hL.len
 simp only[dt.qI,e4,al,aF,hc,aB,zG,zB,zA,ah]
 refine⟨au (⟨t.text,dG,[],0,0,t.at_⟩,aV),rfl,?_⟩
 simp only[aN]
 refine⟨rfl,?_⟩
 have hv:=AH.cK h1 (aO ([.string ⟨#[]⟩,.string ⟨#[]⟩,.slice none 0 0,.int .i64 0,.int .i64 0,.int .i64 0].map AV.sc) 6 46)
 simp only[aD,hv,jf,cH]
 refine⟨⟨.inr f1.next,rfl,rfl,by simp⟩,?_⟩
 have f2:=((Fr.refl (h:=h1) (S:=fun _=>False)).alloc (aO ([.string ⟨#[]⟩,.string ⟨#[]⟩,.slice none 0 0,.int .i64 0,.int .i64 0,.int .i64 0].map AV.sc) 6 46)).put (id:=h1.next) (off:=0) (cs:=au (⟨t.text,dG,[],0,0,t.at_⟩,aV)) (.inr (zU _))
 have AU:=ly (off:=0) (cs:=au (⟨t.text,dG,[],0,0,t.at_⟩,aV)) hv
 have qe:h1.next<((h1.alloc (aO ([.string ⟨#[]⟩,.string ⟨#[]⟩,.slice none 0 0,.int .i64 0,.int .i64 0,.int .i64 0].map AV.sc) 6 46)).put h1.next 0 (au (⟨t.text,dG,[],0,0,t.at_⟩,aV))).next:=by simp[AH.rC,AH.bU]
 generalize (h1.alloc (aO ([.string ⟨#[]⟩,.string ⟨#[]⟩,.slice none 0 0,.int .i64 0,.int .i64 0,.int .i64 0].map AV.sc) 6 46)).put h1.next 0 (au (⟨t.text,dG,[],0,0,t.at_⟩,aV))=h2 at *
 have AU:h2.obj h1.next=some (aO (au (⟨t.text,dG,[],0,0,t.at_⟩,aV)) 6 46):=AU
 have j8:RS h2 r tk L en (p+1) rv rows:=ss.step (f2.mono fun _ h=>h.elim) (f2.obj ss.r fun h=>h)
 have vl:=f2.obj hc fun h=>h
 have Qg:Fr h h2 (·=r):=f1.trans (f2.mono fun _ h=>h.elim)
 have htv:tc≠h1.next:=by have:=h1.lt _ _ hc;omega
 have vn:=f1.next
 generalize h1.next=v at *
 generalize kD:aj tm _=pW
 have g0:pW 0=.ptr r 0:=by rw[<-kD];simp[e0]
 have g1:pW 1=.sc (.int .i64 d):=by rw[<-kD];simp[e1]
 have g4:pW 4=.ptr tc 0:=by rw[<-kD];simp[e4]
 have g5:pW 5=.ptr v 0:=by rw[<-kD];simp
 clear kD
 simp only[dt.Pn,g0,aT,al,aF,j8.r,aB,zG,zB,zA,ah,j8.rows.len.1,j8.rows.len.2,zH]
 generalize kD:aj pW _=fm
 have k0:fm 0=.ptr r 0:=by rw[<-kD];simp[g0]
 have k1:fm 1=.sc (.int .i64 d):=by rw[<-kD];simp[g1]
 have k4:fm 4=.ptr tc 0:=by rw[<-kD];simp[g4]
 have k5:fm 5=.ptr v 0:=by rw[<-kD];simp[g5]
 have k6:fm 6=.sc (.int .i64 rows.length):=by rw[<-kD];simp
 clear kD
 simp only[dt.yd,k0,k5,aT,al,aF,p5,j8.r,AU,aB,nS,zG,zB,zA,ah]
 have PW:(au (⟨t.text,dG,[],0,0,t.at_⟩,aV)).length=6:=rfl
 refine⟨by rw[PW];exact zU _,?_⟩
 rw[show List.take 6 (List.drop 0 (au (⟨t.text,dG,[],0,0,t.at_⟩,aV)))=au (⟨t.text,dG,[],0,0,t.at_⟩,aV) from rfl]
 obtain⟨l,l1,l2,l3⟩:=j8.rows
 have A6:l.length=rows.length:=by rw[<-l2];simp
 have Hf:bw au 6 46 h2 rv l:=l1
 refine Jg (f:=au) (t:=(⟨t.text,dG,[],0,0,t.at_⟩,aV)) eF (by decide) rfl (by decide) rfl Hf ?_ (by omega) ?_
 ·intro id off n he
  exact .inl (hM id (.inr ⟨n,by rw[he,((j8.ym he).1)]⟩))
 intro y h3 hy iy k3 n3
 have f3:Fr h2 h3 (fun i=>∃off n,rv=.sl i off n):=⟨n3,fun i hi hs=>k3 i hi fun off n he=>hs ⟨off,n,he⟩⟩
 have not:∀i o,h2.obj i=some o->o.ty≠46->¬ ∃off n,rv=.sl i off n:=by
  rintro i o ho cC ⟨off,n,he⟩
  obtain⟨_,_,o',dJ,ht⟩:=j8.rows.id he
  rw[ho]at dJ;cases dJ;exact cC ht
 have r3:=f3.obj j8.r (not _ _ j8.r (show(89:Nat)≠46 by decide))
 simp only[k0,aT,al,aD,r3,zG]
 obtain⟨yid,T4⟩:=hy.sl (by simp)
 have ey:cy y=some [y]:=by rw[T4];rfl
 simp only[ey,cH]
 refine⟨⟨.inl (hM r (.inl rfl)),by rw[T4];rfl,rfl,by simp⟩,?_⟩
 have gK:v<h2.next:=qe
 have s3:SI h (h3.put r 3 [y]) r tk L en rv rows v (p+1) y ⟨t.text,dG,[],0,0,t.at_⟩ [] (au (⟨t.text,dG,[],0,0,t.at_⟩,aV)):=by
  have f4:Fr h3 (h3.put r 3 [y]) (·=r):=Fr.refl.put (.inl rfl)
  have vr:v≠r:=by omega
  have yr:∀id,y=.sl id 0 (l++[((⟨t.text,dG,[],0,0,t.at_⟩:Row),aV)]).length->¬id=r:=fun id he hid=>by
   have:=iy id _ _ he
   omega
  refine⟨Qg.mono (fun _ h=>.inl h) |>.trans (f3.mono fun id ⟨off,n,he⟩=>.inl (.inr ⟨n,by rw[he,(j8.ym he).1]⟩)) |>.trans (f4.mono fun _ h=>.inl (.inl h)),⟨?_,?_,l++[(⟨t.text,dG,[],0,0,t.at_⟩,aV)],hy.bJ f4 yr,by simp[l2],?_⟩,?_,?_,vn,lI⟩
  ·rw[ly r3];rfl
  ·exact f4.obj (f3.obj j8.t (not _ _ j8.t (show(117:Nat)≠46 by decide))) (b5 j8.t j8.r (show(117:Nat)≠89 by decide))
  ·intro z hz
   rcases List.mem_append.1 hz with hz |hz
   ·rcases l3 z hz with h4 |⟨id,h4,ho⟩
    ·exact .inl h4
    ·exact .inr ⟨id,h4,f4.obj (f3.obj ho (not _ _ ho (show(67:Nat)≠46 by decide))) (b5 ho j8.r (show(67:Nat)≠89 by decide))⟩
   ·simp only[List.mem_singleton]at hz
    subst hz
    exact .nil
  ·intro id off n he
   have:=iy id off n he
   omega
  ·refine f4.obj (f3.obj AU ?_) vr
   rintro⟨off,n,he⟩
   have:=ZS v off n he
   omega
 have Yw:(h3.put r 3 [y]).obj tc=some (v8 t):=by
  rw[AH.ja (b5 vl j8.r (show(117:Nat)≠89 by decide))]
  exact f3.obj vl (not _ _ vl (show(117:Nat)≠46 by decide))
 generalize h3.put r 3 [y]=h4 at *
 generalize kD:aj fm _=ot
 have j0:ot 0=.ptr r 0:=by rw[<-kD];simp[k0]
 have j1:ot 1=.sc (.int .i64 d):=by rw[<-kD];simp[k1]
 have j4:ot 4=.ptr tc 0:=by rw[<-kD];simp[k4]
 have j5:ot 5=.ptr v 0:=by rw[<-kD];simp[k5]
 have j6:ot 6=.sc (.int .i64 rows.length):=by rw[<-kD];simp[k6]
 clear kD
 simp only[dt.AN,j4,al,aF,Yw,aB,zG,zB,zA,ah]
 refine Jq hL hb hd kF hp hlen hM htv Yw s3 ⟨⟨?_,?_,?_,?_⟩,?_,?_⟩ hR<;>simp[j0,j1,j4,j5,j6]
end
end
section
open Go.Ab
section
variable {L:List Tok} {en:Int}
theorem GY{kk:Nat}(hL:oM L)(kF:kk<=32)(hb:qt L en kk):Ge L en kk:=by
 intro h r tk rv rows M R p d hd hM nT hp X7 hR
 have lI:=h.lt _ _ nT.r
 have wu:=h.lt _ _ nT.t
 have Hp:=hM r (.inl rfl)
 have wK:=hL.len
 rw[D_]at hR
 apply dt.calls
 have hr:=nT.r
 have ht:=nT.t
 have tail:∀(t:Tok)(tm:Nat->AV)(tc:Nat)(h1:AH),gX L en p (iC L p)=.ok t->tm 0=.ptr r 0->tm 1=.sc (.int .i64 d)->tm 4=.ptr tc 0->h1.obj tc=some (v8 t)->h.next<=tc->Fr h h1 (·=r)->h1.obj r=some (ma tk L.length (p+1:Nat) en rv)->dt.qI (fun id=>M id\/h.next<=id) (Ab.cQ Pg [] R) (Ab.bF R) ⟨tm,[]⟩ h1:=by
  intro t tm tc h1 hx e0 e1 e4 hc UE hf C7
  rw[hx]at hR
  have:=(rJ hx).1
  exact Ot hL hb hd kF (by omega) X7 hM lI e0 e1 e4 hc hf (nT.step hf C7) (fun id off n he=>(nT.ym he).2.2) hR
 have he:∀e,gX L en p (iC L p)=.error e->∀h',Fr h h' (·=r)->R (.bV (dE e)) h':=by
  intro e hx h' hf;rw[hx]at hR;exact hR _ (hf.mono fun _ h=>.inl h)
 have A1:∀(gF:AV->AV->Nat->AV),(∀a b,gF a b 0=.ptr r 0/\gF a b 1=.sc (.int .i64 d)/\gF a b 4=b)->aC Pg (fun id=>M id\/h.next<=id) 59 [.ptr r 0,.sc (.bool (iC L p))] h (fun t44 vu=>bH (some [.int .i64 0,.string ⟨#[]⟩,.int .i64 0]) 3 117 vu fun t46 sQ=>
   aG (some 3) t46 t44 sQ (fun id=>M id\/h.next<=id) fun vt=>dt.qI (fun id=>M id\/h.next<=id) (Ab.cQ Pg [] R) (Ab.bF R) ⟨gF t44 t46,[]⟩ vt) (Ab.bF R []):=by
  intro gF kD
  refine⟨(·=r),fun _ h _=>h ▸ .inl Hp,rl rfl wK hr ht ?_⟩
  cases hx:gX L en p (iC L p) with
  |error e=>intro h' h1;exact⟨rfl,he e hx h' h1⟩
  |ok t=>
   intro h' h1 h2
   have h3:=h1.next
   have h4:=h'.lt _ _ h2
   simp[-dt.qI,Tok.enc,AH.b9,h3]
   obtain⟨m0,m1,m4⟩:=kD (.agg [.sc (.int .i64 t.kind),.sc (.string t.text),.sc (.int .i64 t.at_)]) (.ptr h'.next 0)
   refine tail t _ h'.next _ hx m0 m1 m4 (by simp[AH.cb,AH.b9]) h3 ((h1.alloc _).put (.inr h3)) (by simp[AH.cb,AH.b9,nP h4,h2])
 have A2:∀(gF:AV->AV->Nat->AV),(∀a b,gF a b 0=.ptr r 0/\gF a b 1=.sc (.int .i64 d)/\gF a b 4=b)->bH (some [.int .i64 0,.string ⟨#[]⟩,.int .i64 0]) 3 117 h fun t49 sP=>aC Pg (fun id=>M id\/h.next<=id) 59 [.ptr r 0,.sc (.bool (iC L p))] sP (fun t51 yv=>
   aG (some 3) t49 t51 yv (fun id=>M id\/h.next<=id) fun sO=>dt.qI (fun id=>M id\/h.next<=id) (Ab.cQ Pg [] R) (Ab.bF R) ⟨gF t51 t49,[]⟩ sO) (Ab.bF R []):=by
  intro gF kD
  simp only[aN]
  refine⟨rfl,(·=r),fun _ h _=>h ▸ .inl Hp,rl rfl wK (p:=p) (L:=L) (tk:=tk) (en:=en) (rv:=rv) (by rw[AH.alloc_old lI];exact hr) (by rw[AH.alloc_old wu];exact ht) ?_⟩
  have hf:=(Fr.refl (h:=h) (S:=(·=r))).alloc (aO ([.int .i64 0,.string ⟨#[]⟩,.int .i64 0].map .sc) 3 117)
  cases hx:gX L en p (iC L p) with
  |error e=>intro h' h1;exact⟨rfl,he e hx h' (hf.trans (h1.mono fun _ h=>.inl h))⟩
  |ok t=>
   intro h' h1 h2
   have h3:=h1.obj (AH.cK _ _) (nP lI).2.1
   have h4:=h1.next
   simp only[AH.bU]at h4
   simp[-dt.qI,Tok.enc,h3]
   obtain⟨m0,m1,m4⟩:=kD (.agg [.sc (.int .i64 t.kind),.sc (.string t.text),.sc (.int .i64 t.at_)]) (.ptr h.next 0)
   refine tail t _ h.next _ hx m0 m1 m4 (by simp[AH.cb,h3]) (zU _) ((hf.trans (h1.mono fun _ h=>.inl h)).put (.inr (zU _))) (by simp[AH.cb,nP lI,h2])
 by_cases aM:p<L.length
 ·by_cases hk:L[p].kind=1
  ·have hw:iC L p=true:=by simp[iC,aM,hk]
   simp only[hw]at A1 A2
   simp[-dt.qI,-aN,-aD,hr,ht,aM,jr Tok.ci,gD Tok.ci,Tok.enc,hk]
   exact⟨A1 _ (fun _ _=>by simp),A2 _ (fun _ _=>by simp)⟩
  ·have hw:iC L p=false:=by simp[iC,aM,hk]
   have PL:(L[p].kind==1)=false:=by simpa using hk
   simp only[hw]at A1 A2
   simp[-dt.qI,-aN,-aD,hr,ht,aM,jr Tok.ci,gD Tok.ci,Tok.enc,PL]
   exact⟨A1 _ (fun _ _=>by simp),A2 _ (fun _ _=>by simp)⟩
 ·have hw:iC L p=false:=by simp[iC,aM]
  simp only[hw]at A1 A2
  simp[-dt.qI,-aN,-aD,hr,aM]
  exact⟨A1 _ (fun _ _=>by simp),A2 _ (fun _ _=>by simp)⟩
theorem QL(hL:oM L):∀kk,kk<=32->Ge L en kk:=by
 intro kk
 induction kk with
 |zero=>intro hk;exact GY hL hk (HH hL fun k' he=>by omega)
 |succ kk ih=>intro hk;exact GY hL hk (HH hL fun k' he=>by cases he;exact ih (by omega))
end
end
section
open Go.Ab
theorem Mz(p:Int->Bool)(s:ByteArray):∀(n i:Nat),s.size-i=n->∀j,i<=j->j<fE p s i->p (dL s j)=true:=by
 intro n
 induction n with
 |zero=>intro i h j h1 h2;rw[fE,dif_neg (by omega)]at h2;omega
 |succ n ih=>
  intro i h j h1 h2
  have hi:i<s.size:=by omega
  rw[fE,dif_pos hi]at h2
  split at h2
  ·rename_i hp
   by_cases e:i=j
   ·subst e;simpa[dL,hi] using hp
   ·exact ih (i+1) (by omega) j (by omega) h2
  ·omega
theorem GL{s:ByteArray}{a b:Nat}{c:UInt8}(h:c∈(s.extract a b).data.toList):∃j,a<=j/\j<b/\j<s.size/\dL s j=c.toNat:=by
 rw[ByteArray.data_extract,Array.toList_extract,List.extract_eq_take_drop]at h
 obtain⟨k,hk,rfl⟩:=List.mem_iff_getElem.1 h
 simp only[yA,List.length_drop,Array.length_toList]at hk
 refine⟨a+k,by omega,by omega,by have:s.data.size=s.size:=rfl;omega,?_⟩
 have hs:a+k<s.size:=by have:s.data.size=s.size:=rfl;omega
 simp[dL,hs]
 rfl
theorem extract_size(s:ByteArray)(a b:Nat):(s.extract a b).size<=s.size:=by rw[ByteArray.size_extract];omega
def DZ(s:ByteArray)(t:Tok):Prop:=t.text.size<=s.size/\(t.kind=2->∀c∈t.text.data.toList,48<=c.toNat/\c.toNat<=57)
theorem MV{s:ByteArray}{i j:Nat}{t:Tok}(h:sF s i (dL s i)=.tok t j):DZ s t:=by
 unfold sF at h
 split at h
 ·cases h
 split at h
 ·cases h
 split at h
 ·cases h;exact⟨extract_size _ _ _,fun h=>by cases h⟩
 split at h
 ·split at h
  ·cases h
  ·cases h
   refine⟨extract_size _ _ _,fun _ c hc=>?_⟩
   obtain⟨k,h1,h2,h3,h4⟩:=GL hc
   have:=Mz isDigit s _ i rfl k h1 h2
   rw[h4]at this
   simp[isDigit]at this
   omega
 split at h
 ·cases h;exact⟨extract_size _ _ _,fun h=>by cases h⟩
 ·cases h
theorem Mx{s:ByteArray}:∀(n i:Nat)(acc l:List Tok),s.size-i=n->iZ s i acc=.ok l->acc.length<=i->i<=s.size->(∀t∈acc,DZ s t)->l.length<=s.size/\∀t∈l,DZ s t:=by
 intro n
 induction n using Nat.strongRecOn with
 |_ n ih=>
  intro i acc l hn h ha hi cS
  rw[iZ]at h
  split at h
  ·rename_i aM
   split at h
   ·split at h
    ·rename_i j _ hj
     by_cases Hj:j<=s.size
     ·exact ih (s.size-j) (by omega) j acc l rfl h (by omega) Hj cS
     ·rw[iZ,dif_neg (by omega)]at h;cases h;exact⟨by omega,cS⟩
    ·cases h
   ·rename_i t j hl
    have E3:∀t'∈acc++[t],DZ s t':=by
     intro t' AW
     rcases List.mem_append.1 AW with AW |AW
     ·exact cS t' AW
     ·simp only[List.mem_singleton]at AW;subst AW;exact MV hl
    split at h
    ·rename_i hj
     by_cases Hj:j<=s.size
     ·exact ih (s.size-j) (by omega) j _ l rfl h (by simp;omega) Hj E3
     ·rw[iZ,dif_neg (by omega)]at h;cases h;exact⟨by simp;omega,E3⟩
    ·cases h
   ·cases h
  ·cases h;exact⟨by omega,cS⟩
theorem Mw{s:ByteArray}{l:List Tok}(hs:s.size<=65536)(h:iZ s 0 []=.ok l):oM l:=by
 obtain⟨h1,h2⟩:=Mx _ 0 [] l rfl h (by simp) (by omega) (by simp)
 exact⟨by omega,fun t ht=>(h2 t ht).2,fun t ht=>zR (h2 t ht).1 hs⟩
def pX(s:ByteArray):jV (List Row):=
 if 65536<s.size then .error (0,1)
 else match iZ s 0 [] with
 |.error p=>.error (p,90)
 |.ok L=>vK L s.size (L.length+1) 0 []
end
section
open Go.Ab
theorem T1:iD Pg 20=some true:=by kernel_rfl
theorem Ov:bx.code=.seq (Code.at bx.code [0]) (Code.at bx.code [1]):=by kernel_rfl
theorem Xl:Code.at bx.code [0]=.region 0 (vQ (Code.at bx.code [0])) false:=by kernel_rfl
theorem Xm:∃o0 o1,vQ (Code.at bx.code [0])=#[o0,o1]/\o0.op=.call { callee:=.builtin .recover,args:=#[],argTypes:=#[] }/\o0.dst=some 6/\o0.guard=none/\o1.op=.assign (.tmp 6)/\o1.dst=some 3/\o1.guard=none:=by
 refine⟨_,_,rfl,rfl,rfl,rfl,rfl,rfl,rfl⟩
theorem Jr{args:Array Value}{u u':FrameMode}{w:World}{R:Ending->FrameMode->World->Prop}(v:Value)
  (tn:∀(c₀:Frame)(cs:List Frame),c₀.mode=u->(recoverD (c₀::cs)=none/\v=.nilIface/\u'=u)\/recoverD (c₀::cs)=some (v,{ c₀ with mode:=u' }::cs))
  (h:(Code.at bx.code [1]).wp Pg (fun e a w=>(e=.normal\/e=.ret)/\a.defers=[]/\R (.returned (.tuple #[])) u' w) (Act.put (Act.put { tmps:=args++Array.replicate (21-args.size) undef,defers:=[] } (some 6) v) (some 3) v) w) :
  CallsD Pg 34 args u w R:=by
 refine callsD_of_wpS (c:=bx.code) Tryz.func34 rfl ?_
 intro c₀ cs hu
 rw[Ov]
 refine wpS_seq ?_
 rw[Xl]
 refine wpS_region ?_
 obtain⟨o0,o1,e1,a1,a2,a3,b1,b2,b3⟩:=Xm
 rw[e1]
 have fin:∀wV:List Frame,wV={ c₀ with mode:=u' }::cs->(Code.at bx.code [1]).wpS Pg (bodyPostS Pg Tryz.f34 c₀ cs R) (Act.put (Act.put { tmps:=args++Array.replicate (Tryz.f34.ntmps-args.size) undef,defers:=[] } (some 6) v) (some 3) v) wV w:=by
  intro wV yp
  refine wpS_of_wp (wp_mono h ?_)
  rintro e a w' ⟨he,hd,hR⟩
  have rR:(results Tryz.f34 a.tmps).run Pg w'=.ok (.tuple #[]) w':=by
   have:Tryz.f34.results=#[]:=rfl
   simp[results,this]
  rcases he with rfl |rfl
  ·exact⟨hd,u',yp,_,rR,hR⟩
  ·exact⟨hd,u',yp,_,rR,hR⟩
 have w0:∀y,Region.wanted o0 y=true:=fun y=>by unfold Region.wanted;rw[a3]
 have w1:∀y,Region.wanted o1 y=true:=fun y=>by unfold Region.wanted;rw[b3]
 have x0:∀(ev:Operand->Value)(w':World),(execOp ev o0).run Pg w'=.ok .recover w':=fun ev w'=>by
  obtain⟨d,op,t,p,af,gd⟩:=o0
  simp only at a1;subst a1
  simp[execOp,resolve,invoke,builtin]
 have x1:∀(ev:Operand->Value)(w':World),(execOp ev o1).run Pg w'=.ok (.value (ev (.tmp 6))) w':=fun ev w'=>by
  obtain⟨d,op,t,p,af,gd⟩:=o1
  simp only at b1;subst b1
  simp[execOp]
 have gZ:6<(args++Array.replicate (Tryz.f34.ntmps-args.size) undef).size:=by
  have:Tryz.f34.ntmps=21:=rfl
  simp;omega
 have step:∀wV:List Frame,wV={ c₀ with mode:=u' }::cs->wpOpsS Pg #[o0,o1] (Exit.thenS ((Code.at bx.code [1]).wpS Pg (bodyPostS Pg Tryz.f34 c₀ cs R)) (bodyPostS Pg Tryz.f34 c₀ cs R)) [1] (Act.put { tmps:=args++Array.replicate (Tryz.f34.ntmps-args.size) undef,defers:=[] } (some 6) v) wV w:=by
  intro wV yp
  simp only[wpOpsS,List.getElem?_toArray,zB,zA,w1,zV,x1,Oper.upon_value,b2]
  have e6:(Act.put { tmps:=args++Array.replicate (Tryz.f34.ntmps-args.size) undef,defers:=[] } (some 6) v).eval (.tmp 6)=v:=by
   show((args++Array.replicate (Tryz.f34.ntmps-args.size) undef).setIfInBounds 6 v).getD 6 undef=v
   rw[Array.getD_eq_getD_getElem?,Array.getElem?_setIfInBounds_self_of_lt gZ];rfl
  rw[e6]
  exact fin wV yp
 show wpOpsS Pg #[o0,o1] _ [0,1] _ _ _
 rw[wpOpsS]
 simp only[List.getElem?_toArray,zA,w0,zV,x0,a2]
 rcases tn c₀ cs hu with⟨h1,rfl,rfl⟩ |h1
 ·rw[h1]
  exact step _ (by subst hu;rfl)
 ·rw[h1]
  exact step _ rfl
section
variable {h:AH} {M:Nat->Prop} {rc ac ec:Nat}
theorem HT{E:Env}{w:World}{dY:List Value}{u u':FrameMode}{v:Value}{av:AV}{R:AH->Prop}(hr:Rel E h w)(ha:cO E [.ptr rc 0,.ptr ac 0,.ptr ec 0] dY)(hv:VR E av v)
  (tn:∀(c₀:Frame)(cs:List Frame),c₀.mode=u->(recoverD (c₀::cs)=none/\v=.nilIface/\u'=u)\/recoverD (c₀::cs)=some (v,{ c₀ with mode:=u' }::cs))
  (hp:bx.k6 (fun id=>M id\/h.next<=id) (fun x s h'=>(x=.normal\/x=.ret)/\s.ds=[]/\R h') DL ⟨eZ (eZ (s0 [.ptr rc 0,.ptr ac 0,.ptr ec 0]).tm 6 av) 3 av,[]⟩ h) :
  CallsD Pg 34 dY.toArray u w fun e u2 w'=>(∃r,e=.returned r)/\u2=u'/\∃E' h',Step E h M w E' h' w'/\R h':=by
 refine Jr v tn ?_
 have ar:AR E 21 ⟨eZ (eZ (s0 [.ptr rc 0,.ptr ac 0,.ptr ec 0]).tm 6 av) 3 av,[]⟩ (Act.put (Act.put { tmps:=dY.toArray++Array.replicate (21-dY.toArray.size) undef,defers:=[] } (some 6) v) (some 3) v):=
  ((Ij ha (n:=21) (by simp)).put (some 6) hv).put (some 3) hv
 refine wp_mono (pN (W:=fun id=>M id\/h.next<=id) (pl:=bx.pl) Tryz.mixed (Code.at bx.code [1]) (fun x s h'=>(x=.normal\/x=.ret)/\s.ds=[]/\R h') DL _ h bx.ok ?_ E w _ hr ar) ?_
 ·exact Eq.mpr (bx.IB _ _ _ _ _) hp
 rintro e a' w' (⟨x,E',h',s',a1,a2,a3,a4,a5,a6⟩ |⟨_,_,_,_,_,_,_,_,_,a5⟩)
 ·have hd:a'.defers=[]:=by
   have:=a3.ds
   rw[a5]at this
   generalize a'.defers=l at this
   cases this;rfl
  refine⟨?_,hd,⟨_,rfl⟩,rfl,E',h',?_,a6⟩
  ·rcases a4 with rfl |rfl
   ·cases e<;>first |exact .inl rfl |exact a1.elim
   ·cases e<;>first |exact .inr rfl |exact a1.elim
  ·exact(Step.refl hr).trans hr a2 (fun id aM hm=>by
    rcases hm with hm |hm
    ·exact .inl hm
    ·exact .inr hm)
 ·exact a5.elim
theorem Sm{R:AH->Prop}(hR:R h):QG Pg 34 [.ptr rc 0,.ptr ac 0,.ptr ec 0] h M R:=by
 intro E w dY hr ha
 refine HT (v:=.nilIface) (av:=.sc .nilIface) hr ha (.sc _) (fun c₀ cs hu=>.inl ⟨by simp[recoverD,hu],rfl,rfl⟩) ?_
 have e3:(Go.Ab.eZ (Go.Ab.eZ (s0 [.ptr rc 0,.ptr ac 0,.ptr ec 0]).tm 6 (.sc .nilIface)) 3 (.sc .nilIface)) 3=.sc .nilIface:=by simp
 simp only[bx.k6,bx.t6,e3]
 refine⟨rfl,T1,?_⟩
 simp only[bx.k5,bx.t5]
 have e8:∀tm:Nat->AV,aj tm [(7,.sc .nilIface),(8,.sc (.bool false))] 8=.sc (.bool false):=fun tm=>by simp
 rw[e8]
 simp only[ao,zE,zC,zH,zD]
 exact⟨.inl trivial,hR⟩
theorem Sn{R:AH->Prop}{e:Int×Int}{x y z:AV}(hM:M rc/\M ac/\M ec)(h1:h.obj rc=some (aO [x] 1 43))(h2:h.obj ac=some (aO [y] 1 3))(h3:h.obj ec=some (aO [z] 1 28))
  (hR:∀h',h'.obj rc=some (aO [aV] 1 43)->h'.obj ac=some (aO [.sc (.int .i64 e.1)] 1 3)->h'.obj ec=some (aO [.sc (.int .i64 e.2)] 1 28)->Fr h h' (fun id=>id=rc\/id=ac\/id=ec)->R h'):QH Pg 34 [.ptr rc 0,.ptr ac 0,.ptr ec 0] (dE e) h M R:=by
 intro E w dY u hr ha hv
 have n1:=h.lt _ _ h1
 have n2:=h.lt _ _ h2
 have n3:=h.lt _ _ h3
 have d12:=b5 h1 h2 (show(43:Nat)≠3 by decide)
 have d13:=b5 h1 h3 (show(43:Nat)≠28 by decide)
 have d23:=b5 h2 h3 (show(3:Nat)≠28 by decide)
 refine HT (v:=u) (av:=dE e) (u':=.panicking [{ v:=u,recovered:=true }]) hr ha hv (fun c₀ cs hu=>.inr (by simp[recoverD,hu])) ?_
 have e0:(Go.Ab.eZ (Go.Ab.eZ (s0 [.ptr rc 0,.ptr ac 0,.ptr ec 0]).tm 6 (dE e)) 3 (dE e)) 0=.ptr rc 0:=by simp
 have e1:(Go.Ab.eZ (Go.Ab.eZ (s0 [.ptr rc 0,.ptr ac 0,.ptr ec 0]).tm 6 (dE e)) 3 (dE e)) 1=.ptr ac 0:=by simp
 have e2:(Go.Ab.eZ (Go.Ab.eZ (s0 [.ptr rc 0,.ptr ac 0,.ptr ec 0]).tm 6 (dE e)) 3 (dE e)) 2=.ptr ec 0:=by simp
 have e3:(Go.Ab.eZ (Go.Ab.eZ (s0 [.ptr rc 0,.ptr ac 0,.ptr ec 0]).tm 6 (dE e)) 3 (dE e)) 3=dE e:=by simp
 generalize Go.Ab.eZ (Go.Ab.eZ (s0 [.ptr rc 0,.ptr ac 0,.ptr ec 0]).tm 6 (dE e)) 3 (dE e)=D6 at *
 simp only[bx.k6,bx.t6,e3]
 refine⟨T1,?_⟩
 show bx.k5 _ _ _ ⟨aj D6 [(7,dE e),(8,.sc (.bool true))],[]⟩ h
 have g0:aj D6 [(7,dE e),(8,.sc (.bool true))] 0=.ptr rc 0:=by simp[e0]
 have g1:aj D6 [(7,dE e),(8,.sc (.bool true))] 1=.ptr ac 0:=by simp[e1]
 have g2:aj D6 [(7,dE e),(8,.sc (.bool true))] 2=.ptr ec 0:=by simp[e2]
 have g3:aj D6 [(7,dE e),(8,.sc (.bool true))] 3=dE e:=by simp[e3]
 have g8:aj D6 [(7,dE e),(8,.sc (.bool true))] 8=.sc (.bool true):=by simp
 generalize aj D6 [(7,dE e),(8,.sc (.bool true))]=pW at *
 simp only[bx.k5,bx.t5,g8,ao,zF,zC,zD,zI]
 simp only[bx.k4,bx.t4,g3]
 simp[-bx.k1,dE,AH.b9]
 have f4:=((Fr.refl (h:=h) (S:=fun _=>False)).alloc (aO [.sc (.int .i64 0),.sc (.int .i64 0)] 2 85)).put (id:=h.next) (off:=0) (cs:=[.sc (.int .i64 e.1),.sc (.int .i64 e.2)]) (.inr (zU _))
 have o4:((h.alloc (aO [.sc (.int .i64 0),.sc (.int .i64 0)] 2 85)).put h.next 0 [.sc (.int .i64 e.1),.sc (.int .i64 e.2)]).obj h.next=some (aO [.sc (.int .i64 e.1),.sc (.int .i64 e.2)] 2 85):=by simp[AH.cb,AH.b9]
 have p1:=f4.obj h1 fun h=>h
 have p2:=f4.obj h2 fun h=>h
 have p3:=f4.obj h3 fun h=>h
 generalize (h.alloc (aO [.sc (.int .i64 0),.sc (.int .i64 0)] 2 85)).put h.next 0 [.sc (.int .i64 e.1),.sc (.int .i64 e.2)]=h4 at *
 simp only[bx.k1,bx.t1]
 refine⟨fun _=>h.next,by simp[o4],?_⟩
 have q1:rc≠h.next:=by omega
 have q2:ac≠h.next:=by omega
 simp[g0,g1,g2,o4,p1,p2,p3,AH.cb,hM.1,hM.2.1,hM.2.2,q1,q2,d12,d13,d23,Ne.symm d12,Ne.symm d13,Ne.symm d23]
 refine⟨⟨.inl hM.1,fun i _=>q1⟩,⟨.inl hM.2.1,fun i _=>q2⟩,?_⟩
 refine hR _ ?_ ?_ ?_ ?_
 ·simp[AH.cb,p1,d12,d13]
 ·simp[AH.cb,p2,d23,Ne.symm d12]
 ·simp[AH.cb,p3,Ne.symm d13,Ne.symm d23]
 ·exact(((f4.mono fun _ h=>h.elim).put (.inl (.inl rfl))).put (.inl (.inr (.inl rfl)))).put (.inl (.inr (.inr rfl)))
end
end
section
open Go.Ab
section
variable (W:Nat->Prop) (Q:cG) (QP:cm) (s:St) (h:AH)
theorem V1(C:KT):aw Pg 36 W ax.pl (Code.at ax.code [1,1,0]) (b_ C Q) QP s h=ax.t11 s h (fun s h=>ax.t10 s h C (fun s h=>ax.t9 W s h C (fun s h=>ax.t8 Q s h C))) C:=by
 have o5:∀s h,aw Pg 36 W ax.pl (Code.at ax.code [1,1,0,1,0]) (b_ C Q) QP s h=ax.t9 W s h C (fun s h=>ax.t8 Q s h C):=fun s h=>
  iq (a:=(Code.at ax.code [1,1,0,1,0,0])) (b:=(Code.at ax.code [1,1,0,1,0,1])) (by kernel_rfl) (fun s h=>ax.TE W Q QP s h C) (ax.TD W Q QP s h C _)
 have dI:∀s h,aw Pg 36 W ax.pl (Code.at ax.code [1,1,0,1]) (b_ C Q) QP s h=ax.t10 s h C (fun s h=>ax.t9 W s h C (fun s h=>ax.t8 Q s h C)):=fun s h=>
  rm (o:=.tmp 14) (a:=(Code.at ax.code [1,1,0,1,0])) (b:=(Code.at ax.code [1,1,0,1,1])) (by kernel_rfl) (o5 s h) rfl (ax.Pr W Q QP s h C (fun s h=>ax.t9 W s h C (fun s h=>ax.t8 Q s h C)))
 exact iq (a:=(Code.at ax.code [1,1,0,0])) (b:=(Code.at ax.code [1,1,0,1])) (by kernel_rfl) dI (ax.Pq W Q QP s h _ C)
theorem Mb(C:KT):aw Pg 36 W ax.pl (Code.at ax.code [1,1,1,1,1,0,0,0,0]) (b_ C Q) QP s h=ax.t4 s h C (fun s h=>ax.t3 Q s h C):=
 iq (a:=(Code.at ax.code [1,1,1,1,1,0,0,0,0,0])) (b:=(Code.at ax.code [1,1,1,1,1,0,0,0,0,1])) (by kernel_rfl)
  (fun s h=>rm (o:=.tmp 29) (a:=(Code.at ax.code [1,1,1,1,1,0,0,0,0,1,0])) (b:=(Code.at ax.code [1,1,1,1,1,0,0,0,0,1,1])) (by kernel_rfl) rfl rfl (ax.IH W Q QP s h C)) (ax.IF W Q QP s h C _)
theorem V0(K:KT)(KP:St->AV->AH->Prop):Hy Pg 36 W (vQ (Code.at ax.code [1,1,1,1,1,0,0,0,1,0])) (List.range (vQ (Code.at ax.code [1,1,1,1,1,0,0,0,1,0])).size) K KP s h =
  (aC Pg W 35 [(s.tm 6),(.sc (.int .i64 0))] h (fun t8 h9=>K ⟨aj s.tm [(30,(s.tm 6)),(31,t8)],s.ds⟩ h9) (KP ⟨aj s.tm [(30,(s.tm 6))],s.ds⟩)):=by kernel_rfl
theorem VZ:ax.code=.seq (Code.at ax.code [0]) (Code.at ax.code [1]):=by kernel_rfl
theorem VY:Code.at ax.code [1]=.seq (Code.at ax.code [1,0]) (Code.at ax.code [1,1]):=by kernel_rfl
theorem VX:Code.at ax.code [1,1]=.seq (Code.at ax.code [1,1,0]) (Code.at ax.code [1,1,1]):=by kernel_rfl
theorem VW:Code.at ax.code [1,1,1]=.seq (Code.at ax.code [1,1,1,0]) (Code.at ax.code [1,1,1,1]):=by kernel_rfl
theorem VV:Code.at ax.code [1,1,1,1]=.seq (Code.at ax.code [1,1,1,1,0]) (Code.at ax.code [1,1,1,1,1]):=by kernel_rfl
theorem Ma:Code.at ax.code [1,1,1,1,1]=.seq (Code.at ax.code [1,1,1,1,1,0]) (Code.at ax.code [1,1,1,1,1,1]):=by kernel_rfl
theorem L_:Code.at ax.code [1,1,1,1,1,0]=.block 0 (Code.at ax.code [1,1,1,1,1,0,0]):=by kernel_rfl
theorem L9:Code.at ax.code [1,1,1,1,1,0,0]=.loop ax.c1:=by kernel_rfl
theorem L8:ax.c1=.seq (Code.at ax.code [1,1,1,1,1,0,0,0,0]) (Code.at ax.code [1,1,1,1,1,0,0,0,1]):=by kernel_rfl
theorem VU:Code.at ax.code [1,1,1,1,1,0,0,0,1]=.block 1 (Code.at ax.code [1,1,1,1,1,0,0,0,1,0]):=by kernel_rfl
theorem Sx:Code.at ax.code [1,1,1,1,1,0,0,0,1,0]=.region 7 (vQ (Code.at ax.code [1,1,1,1,1,0,0,0,1,0])) false:=by kernel_rfl
end
end
section
open Go.Ab
def Gf(s:ByteArray)(h:AH)(R:AE->AH->Prop):Prop:=
 sf (pX s) (fun rows=>∀x h',fh h' x rows->cz (h.next<=·) x->Fr h h' (fun _=>False)->R (.ret (.cM [x,.sc (.int .i64 0),.sc (.int .i64 0)])) h')
  (fun e=>∀h',Fr h h' (fun _=>False)->R (.ret (.cM [aV,.sc (.int .i64 e.1),.sc (.int .i64 e.2)])) h')
abbrev o1(x:AV)(ty:TypeId):AO:=aO [x] 1 ty
structure RC (h:AH) (rc ac ec:Nat) (x y z:AV):Prop where
 r:h.obj rc=some (o1 x 43)
 a:h.obj ac=some (o1 y 3)
 e:h.obj ec=some (o1 z 28)
theorem RC.ne{h:AH}{rc ac ec:Nat}{x y z:AV}(c:RC h rc ac ec x y z):rc≠ac/\rc≠ec/\ac≠ec:=
 ⟨b5 c.r c.a (show(43:Nat)≠3 by decide),b5 c.r c.e (show(43:Nat)≠28 by decide),b5 c.a c.e (show(3:Nat)≠28 by decide)⟩
theorem RC.res{h:AH}{rc ac ec:Nat}{x y z:AV}(c:RC h rc ac ec x y z){s:St}(e2:s.tm 2=.ptr rc 0)(e3:s.tm 3=.ptr ac 0)(e4:s.tm 4=.ptr ec 0){K:List AV->Prop}(hK:K [x,y,z]):lF Pg Tryz.f19.results.toList s h K:=by
 have:Tryz.f19.results.toList=[.cell 2 43,.cell 3 3,.cell 4 28]:=rfl
 rw[this]
 have a1:kx Pg 43=some false:=by kernel_rfl
 have a2:kx Pg 3=some false:=by kernel_rfl
 have a3:kx Pg 28=some false:=by kernel_rfl
 simp[lF,e2,e3,e4,a1,a2,a3,c.r,c.a,c.e]
 exact hK
theorem RC.fr{h h':AH}{rc ac ec:Nat}{x y z:AV}(c:RC h rc ac ec x y z){S:Nat->Prop}(hf:Fr h h' S)(h1:¬S rc)(h2:¬S ac)(h3:¬S ec):RC h' rc ac ec x y z:=⟨hf.obj c.r h1,hf.obj c.a h2,hf.obj c.e h3⟩
section
variable {h:AH} {M:Nat->Prop} {R:AE->AH->Prop} {E:Env} {w:World}
theorem vM{hr:Rel E h w}{E':Env}{h':AH}{w':World}(hs:Step E h (fun id=>M id\/h.next<=id) w E' h' w'):Step E h M w E' h' w':=(Step.refl hr).trans hr hs fun _ _ hm=>hm
theorem Sv(hr:Rel E h w){s:St}{h':AH}{rc ac ec:Nat}{x y z:AV}(oZ:s.ds=[⟨.func 34,[.ptr rc 0,.ptr ac 0,.ptr ec 0],[]⟩])(e2:s.tm 2=.ptr rc 0)(e3:s.tm 3=.ptr ac 0)(e4:s.tm 4=.ptr ec 0)(c:RC h' rc ac ec x y z)
  (hR:R (.ret (.cM [x,y,z])) h'):JG 36 (fun id=>M id\/h.next<=id) E h w (bodyPostD Pg Tryz.f19 (pC E h M w R)) .ret s h':=by
 intro e E' w' a hx hs ha
 cases e<;>first |exact hx.elim |skip
 exact KA (M':=fun _=>False) hr (vM (hr:=hr) hs) ha oZ rfl (fun _ _ h=>h.elim) (Sm (R:=fun h2=>lF Pg Tryz.f19.results.toList s h2 fun vs=>R (.ret (gN vs)) h2) (c.res e2 e3 e4 hR))
theorem OH(hr:Rel E h w){s:St}{h':AH}{rc ac ec:Nat}{x y z:AV}(oZ:s.ds=[])(e2:s.tm 2=.ptr rc 0)(e3:s.tm 3=.ptr ac 0)(e4:s.tm 4=.ptr ec 0)(c:RC h' rc ac ec x y z)
  (hR:R (.ret (.cM [x,y,z])) h'):JG 36 (fun id=>M id\/h.next<=id) E h w (bodyPostD Pg Tryz.f19 (pC E h M w R)) .ret s h':=by
 intro e E' w' a hx hs ha
 cases e<;>first |exact hx.elim |skip
 have hd:a.defers=[]:=by
  have:=ha.ds
  rw[oZ]at this
  generalize a.defers=l at this
  cases this;rfl
 show Leaves Pg Tryz.f19 a.tmps _ a.defers _ _
 rw[hd]
 exact wh (vM (hr:=hr) hs) ha (c.res e2 e3 e4 hR)
theorem Sw(hr:Rel E h w){s:St}{h':AH}{rc ac ec:Nat}{x y z:AV}{f:Int×Int}(oZ:s.ds=[⟨.func 34,[.ptr rc 0,.ptr ac 0,.ptr ec 0],[]⟩])(e2:s.tm 2=.ptr rc 0)(e3:s.tm 3=.ptr ac 0)(e4:s.tm 4=.ptr ec 0)(c:RC h' rc ac ec x y z)
  (n1:h.next<=rc) (n2:h.next<=ac) (n3:h.next<=ec) (hf:Fr h h' (fun _=>False)) (hR:∀h2,Fr h h2 (fun _=>False)->R (.ret (.cM [aV,.sc (.int .i64 f.1),.sc (.int .i64 f.2)])) h2)
  {E':Env} {w':World} {a:Act} {u:Value} (hs:Step E h (fun id=>M id\/h.next<=id) w E' h' w') (ha:AR E' 36 s a) (hu:VR E' (dE f) u) :
  bodyPostD Pg Tryz.f19 (pC E h M w R) (.panic [{ v:=u,recovered:=false }]) a w':=by
 refine KB (M':=fun id=>id=rc\/id=ac\/id=ec) hr (vM (hr:=hr) hs) ha oZ rfl hu (fun id _ hm=>.inr ?_) (Sn ⟨.inl rfl,.inr (.inl rfl),.inr (.inr rfl)⟩ c.r c.a c.e ?_)
 ·rcases hm with hm |hm |hm<;>omega
 ·intro h2 a1 a2 a3 f2
  refine RC.res ⟨a1,a2,a3⟩ e2 e3 e4 (hR h2 (hf.trans (f2.mono fun id hid=>.inr ?_)))
  rcases hid with hm |hm |hm<;>omega
end
end
section
open Go.Ab
theorem fh.cell{h:AH}{x:AV}{rows:List Row}(hr:fh h x rows):cy x=some [x]/\cB x=true:=by
 obtain⟨l,h1,_,_⟩:=hr
 rcases h1 with⟨rfl,_⟩ |⟨id,rfl,_⟩<;>exact⟨rfl,rfl⟩
abbrev D8(rc ac ec:Nat):List fi:=[⟨.func 34,[.ptr rc 0,.ptr ac 0,.ptr ec 0],[]⟩]
structure T8 (s:St) (rc ac ec r:Nat) (tk:AV):Prop where
 ds:s.ds=D8 rc ac ec
 e2:s.tm 2=.ptr rc 0
 e3:s.tm 3=.ptr ac 0
 e4:s.tm 4=.ptr ec 0
 e5:s.tm 5=tk
 e6:s.tm 6=.ptr r 0
theorem T8.aj{s:St}{rc ac ec r:Nat}{tk:AV}(t:T8 s rc ac ec r tk)(l:List (Nat×AV))(hl:∀x∈l,6<x.1):T8 ⟨aj s.tm l,s.ds⟩ rc ac ec r tk:=by
 have key:∀(l:List (Nat×AV))(tm:Nat->AV)(i:Nat),i<=6->(∀x∈l,6<x.1)->Go.Ab.aj tm l i=tm i:=by
  intro l
  induction l with
  |nil=>intro tm i _ _;rfl
  |cons x l ih=>
   intro tm i hi hl
   have hx:=hl x (by simp)
   show Go.Ab.aj (Go.Ab.eZ tm x.1 x.2) l i=tm i
   rw[ih _ i hi (fun y hy=>hl y (by simp[hy])),lY (by omega)]
 exact⟨t.ds,(key l _ _ (by omega) hl).trans t.e2,(key l _ _ (by omega) hl).trans t.e3,(key l _ _ (by omega) hl).trans t.e4,(key l _ _ (by omega) hl).trans t.e5,(key l _ _ (by omega) hl).trans t.e6⟩
section
variable {h:AH} {M:Nat->Prop} {R:AE->AH->Prop} {E:Env} {w:World}
theorem HZ(hr:Rel E h w){s:St}{h':AH}{rc ac ec r:Nat}{tk x y z rv c0 c1 c2:AV}{rows:List Row}(t:T8 s rc ac ec r tk)(c:RC h' rc ac ec x y z)(n1:h.next<=rc)(n2:h.next<=ac)(n3:h.next<=ec)(fH:h'.obj r=some (aO [c0,c1,c2,rv] 4 89))(DQ:fh h' rv rows)(hf:Fr h h' (fun _=>False))
  (hR:∀h2,fh h2 rv rows->Fr h h2 (fun _=>False)->R (.ret (.cM [rv,.sc (.int .i64 0),.sc (.int .i64 0)])) h2) :
  TC Pg 36 (fun id=>M id\/h.next<=id) E h w (Code.at ax.code [1,1,1,1,1,1]) (bodyPostD Pg Tryz.f19 (pC E h M w R)) s h':=by
 refine Qt Tryz.mixed hr (pl:=ax.pl) (by kernel_rfl) ?_
 rw[ax.DN]
 obtain⟨d12,d13,d23⟩:=c.ne
 simp only[ax.k1,ax.t1,t.e6,t.e2,t.e3,t.e4,aT,al,aF,fH,aB,zG,zB,zA,ah,aD,c.r,DQ.cell.1,cH]
 refine⟨⟨.inr n1,by rw[List.all_cons,DQ.cell.2];rfl,rfl,by simp⟩,?_⟩
 have ca:=c.a
 have ce:=c.e
 have cr:=c.r
 simp only[AH.cb,d12,d13,d23,Ne.symm d12,Ne.symm d13,Ne.symm d23,if_false,ca,ce,eJ,cH]
 refine⟨⟨.inr n2,rfl,rfl,by simp⟩,⟨.inr n3,rfl,rfl,by simp⟩,?_⟩
 have f3:Fr h' (((h'.put rc 0 [rv]).put ac 0 [.sc (.int .i64 0)]).put ec 0 [.sc (.int .i64 0)]) (fun id=>id=rc\/id=ac\/id=ec):=((Fr.refl.put (.inl (.inl rfl))).put (.inl (.inr (.inl rfl)))).put (.inl (.inr (.inr rfl)))
 have rw3:fh (((h'.put rc 0 [rv]).put ac 0 [.sc (.int .i64 0)]).put ec 0 [.sc (.int .i64 0)]) rv rows:=by
  refine DQ.fr f3 (fun id he hid=>?_) (fun id o ho ht hid=>?_)
  ·obtain⟨_,_,o,ho,ht⟩:=DQ.id he
   rcases hid with h1 |h1 |h1
   ·exact b5 ho cr (by rw[ht];show(46:Nat)≠43;decide) h1
   ·exact b5 ho ca (by rw[ht];show(46:Nat)≠3;decide) h1
   ·exact b5 ho ce (by rw[ht];show(46:Nat)≠28;decide) h1
  ·rcases hid with h1 |h1 |h1
   ·exact b5 ho cr (by rw[ht];show(67:Nat)≠43;decide) h1
   ·exact b5 ho ca (by rw[ht];show(67:Nat)≠3;decide) h1
   ·exact b5 ho ce (by rw[ht];show(67:Nat)≠28;decide) h1
 have t3:=t.aj [(32,.ptr r 0),(33,.ptr r 0),(34,.ptr r 3),(35,rv)] (by simp)
 refine Sv (x:=rv) (y:=.sc (.int .i64 0)) (z:=.sc (.int .i64 0)) hr t3.ds t3.e2 t3.e3 t3.e4 ⟨?_,?_,?_⟩ (hR _ rw3 (hf.trans (f3.mono fun id hid=>.inr ?_)))
 ·simp[AH.cb,cr,d12,d13]
 ·simp[AH.cb,ca,d23,Ne.symm d12]
 ·simp[AH.cb,ce,Ne.symm d13,Ne.symm d23]
 ·rcases hid with h1 |h1 |h1<;>omega
theorem OI{L:List Tok}{en:Int}(hr:Rel E h w)(hL:oM L){s:St}{h1:AH}{rc ac ec r tk:Nat}(t:T8 s rc ac ec r (.sl tk 0 L.length))(c:RC h1 rc ac ec aV (.sc (.int .i64 0)) (.sc (.int .i64 0)))(n1:h.next<=rc)(n2:h.next<=ac)(n3:h.next<=ec)(n4:h.next<=r)
  (rs:RS h1 r tk L en 0 aV []) (hf:Fr h h1 (fun _=>False))
  (hR:sf (vK L en (L.length+1) 0 []) (fun rows=>∀x h',fh h' x rows->cz (h.next<=·) x->Fr h h' (fun _=>False)->R (.ret (.cM [x,.sc (.int .i64 0),.sc (.int .i64 0)])) h')
  (fun e=>∀h',Fr h h' (fun _=>False)->R (.ret (.cM [aV,.sc (.int .i64 e.1),.sc (.int .i64 e.2)])) h')) :
  TC Pg 36 (fun id=>M id\/h.next<=id) E h w (Code.at ax.code [1,1,1,1,1]) (bodyPostD Pg Tryz.f19 (pC E h M w R)) s h1:=by
 rw[Ma]
 refine Gd ?_
 refine zx L_ ?_
 generalize hX:vK L en (L.length+1) 0 []=X at hR
 have wK:=hL.len
 refine HO (ι:=Nat×Nat×List Row×AV) L9 (fun x s' h'=>T8 s' rc ac ec r (.sl tk 0 L.length)/\RC h' rc ac ec aV (.sc (.int .i64 0)) (.sc (.int .i64 0))/\RS h' r tk L en x.2.1 x.2.2.2 x.2.2.1/\Fr h h' (fun _=>False)/\cz (h.next<=·) x.2.2.2 /\
  x.2.1<=L.length/\L.length<x.2.1+x.1/\x.2.2.1.length<=x.2.1/\vK L en x.1 x.2.1 x.2.2.1=X) (fun x=>x.1) (L.length+1,0,[],aV) ?_ ?_
 ·exact⟨t,c,rs,hf,(fun _ _ _ he=>by cases he),Nat.zero_le _,by simp,by simp,hX⟩
 rintro⟨n,p,acc,rv⟩ s' h' ⟨t',c',oQ,lM,vh,hp,hpn,tp,Be⟩
 simp only at oQ vh hp hpn tp Be
 cases n with
 |zero=>omega
 |succ n=>
  simp only[vK]at Be
  refine pB Tryz.mixed hr (pl:=ax.pl) L8 (by kernel_rfl) ?_
  rw[Mb]
  have hl:bL (.sl tk 0 L.length)=fun K=>K (.sc (.int .i64 L.length)):=rfl
  simp only[ax.t4,t'.e6,t'.e5,aT,al,aF,oQ.r,aB,zG,zB,zA,ah,Cw,zH,G6,ba]
  by_cases aM:p<L.length
  ·rw[zX aM]at Be
   have hd:decide ((p:Int)<(L.length:Nat))=true:=by simpa using aM
   rw[hd]
   have t2:=t'.aj [(23,.ptr r 0),(24,.ptr r 0),(25,.ptr r 1),(26,.sc (.int .i64 p)),(27,.sl tk 0 L.length),(28,.sc (.int .i64 L.length)),(29,.sc (.bool true))] (by simp)
   have Lv:Go.Ab.aj s'.tm [(23,.ptr r 0),(24,.ptr r 0),(25,.ptr r 1),(26,.sc (.int .i64 p)),(27,.sl tk 0 L.length),(28,.sc (.int .i64 L.length)),(29,.sc (.bool true))] 29=.sc (.bool true):=by simp
   generalize Go.Ab.aj s'.tm [(23,.ptr r 0),(24,.ptr r 0),(25,.ptr r 1),(26,.sc (.int .i64 p)),(27,.sl tk 0 L.length),(28,.sc (.int .i64 L.length)),(29,.sc (.bool true))]=fm at *
   simp only[ax.t3,Lv,ao,zF,zC,zD,zI]
   refine zx VU ?_
   refine LX hr Sx (K:=fun s2 h2=>T8 s2 rc ac ec r (.sl tk 0 L.length)/\RC h2 rc ac ec aV (.sc (.int .i64 0)) (.sc (.int .i64 0))/\∃p2 new Au,lH L en 32 p=.ok (p2,new)/\RS h2 r tk L en p2 Au (acc++new)/\Fr h h2 (fun _=>False)/\cz (h.next<=·) Au)
    (KP:=fun s2 v h2=>T8 s2 rc ac ec r (.sl tk 0 L.length)/\RC h2 rc ac ec aV (.sc (.int .i64 0)) (.sc (.int .i64 0))/\Fr h h2 (fun _=>False)/\∃e,lH L en 32 p=.error e/\v=dE e) ?_ ?_ ?_
   ·rintro s2 h2 E2 w2 a2 ⟨t3,c3,p2,new,Au,g1,g2,g3,g4⟩ nr o_
    obtain⟨b1,b2,b3⟩:=D9 32 p p2 new g1
    rw[g1]at Be
    exact⟨(n,p2,acc++new,Au),s2,h2,E2,by simp,⟨t3,c3,g2,g3,g4,b2,by simp only;omega,by simp;omega,Be⟩,nr,o_⟩
   ·rintro s2 v h2 E2 w2 a2 u ⟨t3,c3,f3,e,g1,rfl⟩ nr o_ hu
    rw[g1]at Be
    rw[<-Be]at hR
    exact Sw hr t3.ds t3.e2 t3.e3 t3.e4 c3 n1 n2 n3 f3 hR nr o_ hu
   ·rw[V0]
    rw[t2.e6]
    have not:∀i o,h'.obj i=some o->o.ty≠89->o.ty≠46->¬SS r rv i:=by
     rintro i o ho yw yz (rfl |⟨m,he⟩)
     ·exact b5 ho oQ.r yw rfl
     ·obtain⟨_,_,o',dJ,ht⟩:=oQ.rows.id he
      rw[ho]at dJ;cases dJ;exact yz ht
    refine⟨SS r rv,fun id hid _=>.inr ?_,QL (en:=en) hL 32 (by omega) (rv:=rv) (rows:=acc) (p:=p) (by omega) (fun _ h=>h) oQ hp tp ?_⟩
    ·rcases hid with hid |⟨m,hid⟩
     ·omega
     ·exact vh id 0 m hid
    ·have YI:∀h2,Fr h' h2 (SS r rv)->Fr h h2 (fun _=>False):=fun h2 f2=>lM.trans (f2.mono fun id hid=>.inr (by
      rcases hid with hid |⟨m,hid⟩
      ·omega
      ·exact vh id 0 m hid))
     have Xz:∀h2,Fr h' h2 (SS r rv)->RC h2 rc ac ec aV (.sc (.int .i64 0)) (.sc (.int .i64 0)):=fun h2 f2=>c'.fr f2 (not _ _ c'.r (by show(43:Nat)≠89;decide) (by show(43:Nat)≠46;decide)) (not _ _ c'.a (by show(3:Nat)≠89;decide) (by show(3:Nat)≠46;decide)) (not _ _ c'.e (by show(28:Nat)≠89;decide) (by show(28:Nat)≠46;decide))
     cases eM:lH L en 32 p with
     |error e=>
      intro h2 f2
      exact⟨t2.aj [(30,.ptr r 0)] (by simp),Xz h2 f2,YI h2 f2,e,rfl,rfl⟩
     |ok x=>
      obtain⟨p2,new⟩:=x
      intro h2 Au j8 f2 i2
      refine⟨t2.aj [(30,.ptr r 0),(31,_)] (by simp),Xz h2 f2,p2,new,Au,rfl,j8,YI h2 f2,fun id off m he=>?_⟩
      have h0:=(j8.ym he).1
      rcases i2 id off m he with(hid |⟨m2,hid⟩) |hid
      ·omega
      ·exact vh id 0 m2 hid
      ·exact zR lM.next hid
  ·rw[zW aM]at Be
   have hd:decide ((p:Int)<(L.length:Nat))=false:=by simpa using aM
   rw[hd]
   rw[<-Be]at hR
   have t2:=t'.aj [(23,.ptr r 0),(24,.ptr r 0),(25,.ptr r 1),(26,.sc (.int .i64 p)),(27,.sl tk 0 L.length),(28,.sc (.int .i64 L.length)),(29,.sc (.bool false))] (by simp)
   have Lv:Go.Ab.aj s'.tm [(23,.ptr r 0),(24,.ptr r 0),(25,.ptr r 1),(26,.sc (.int .i64 p)),(27,.sl tk 0 L.length),(28,.sc (.int .i64 L.length)),(29,.sc (.bool false))] 29=.sc (.bool false):=by simp
   generalize Go.Ab.aj s'.tm [(23,.ptr r 0),(24,.ptr r 0),(25,.ptr r 1),(26,.sc (.int .i64 p)),(27,.sl tk 0 L.length),(28,.sc (.int .i64 L.length)),(29,.sc (.bool false))]=fm at *
   simp only[ax.t3,Lv,ao,zE,zC,zD,zH]
   intro e2 E2 w2 a2 hx nr o_
   cases e2<;>first |exact hx.elim |skip
   cases hx
   exact HZ (M:=M) hr t2 c' n1 n2 n3 oQ.r oQ.rows lM (fun h2 r2 f2=>hR rv h2 r2 vh f2) E2 w2 a2 nr o_
end
end
section
open Go.Ab
section
variable {h:AH} {M:Nat->Prop} {R:AE->AH->Prop} {E:Env} {w:World}
theorem L7{en:Int}(hr:Rel E h w){s:St}{h1:AH}{rc ac ec r:Nat}(t:T8 s rc ac ec r aV)(c:RC h1 rc ac ec aV (.sc (.int .i64 0)) (.sc (.int .i64 0)))(n1:h.next<=rc)(n2:h.next<=ac)(n3:h.next<=ec)
  (fH:h1.obj r=some (aO [aV,.sc (.int .i64 0),.sc (.int .i64 en),aV] 4 89)) (hf:Fr h h1 (fun _=>False))
  (hR:∀x h',fh h' x []->cz (h.next<=·) x->Fr h h' (fun _=>False)->R (.ret (.cM [x,.sc (.int .i64 0),.sc (.int .i64 0)])) h') :
  TC Pg 36 (fun id=>M id\/h.next<=id) E h w (Code.at ax.code [1,1,1,1,1]) (bodyPostD Pg Tryz.f19 (pC E h M w R)) s h1:=by
 rw[Ma]
 refine Gd ?_
 refine zx L_ ?_
 refine HO (ι:=Unit) L9 (fun x s' h'=>s'=s/\h'=h1) (fun _=>0) () ⟨rfl,rfl⟩ ?_
 rintro _ s' h' ⟨e1,e2⟩
 rw[e1,e2]
 clear e1 e2
 refine pB Tryz.mixed hr (pl:=ax.pl) L8 (by kernel_rfl) ?_
 rw[Mb]
 simp only[ax.t4,t.e6,t.e5,aT,al,aF,fH,aB,zG,zB,zA,ah,Aq,zH,En,ba]
 have hd:decide ((0:Int)<((0:Nat):Int))=false:=by decide
 rw[hd]
 have t2:=t.aj [(23,.ptr r 0),(24,.ptr r 0),(25,.ptr r 1),(26,.sc (.int .i64 0)),(27,aV),(28,.sc (.int .i64 (0:Nat))),(29,.sc (.bool false))] (by simp)
 have Lv:Go.Ab.aj s.tm [(23,.ptr r 0),(24,.ptr r 0),(25,.ptr r 1),(26,.sc (.int .i64 0)),(27,aV),(28,.sc (.int .i64 (0:Nat))),(29,.sc (.bool false))] 29=.sc (.bool false):=by simp
 generalize Go.Ab.aj s.tm [(23,.ptr r 0),(24,.ptr r 0),(25,.ptr r 1),(26,.sc (.int .i64 0)),(27,aV),(28,.sc (.int .i64 (0:Nat))),(29,.sc (.bool false))]=fm at *
 simp only[ax.t3,Lv,ao,zE,zC,zD,zH]
 intro e2 E2 w2 a2 hx nr o_
 cases e2<;>first |exact hx.elim |skip
 cases hx
 exact HZ (M:=M) hr t2 c n1 n2 n3 fH fh.nil hf (fun h2 r2 f2=>hR aV h2 r2 (fun _ _ _ he=>by cases he) f2) E2 w2 a2 nr o_
end
section
variable (h:AH) (M:Nat->Prop) (R:AE->AH->Prop) (E:Env) (w:World)
def K8:KT:=TC Pg 36 (fun id=>M id\/h.next<=id) E h w (Code.at ax.code [1,1,1]) (bodyPostD Pg Tryz.f19 (pC E h M w R))
def Y8:KT:=fun s h3=>ax.t9 (fun id=>M id\/h.next<=id) s h3 (K8 h M R E w) (fun s h3=>ax.t8 (JG 36 (fun id=>M id\/h.next<=id) E h w (bodyPostD Pg Tryz.f19 (pC E h M w R))) s h3 (K8 h M R E w))
def X8:KT:=fun s h3=>ax.t11 s h3 (fun s h3=>ax.t10 s h3 (K8 h M R E w) (Y8 h M R E w)) (K8 h M R E w)
end
structure S8 (tm:Nat->AV) (s:ByteArray) (rc ac ec:Nat):Prop where
 e0:tm 0=.sc (.string s)
 e2:tm 2=.ptr rc 0
 e3:tm 3=.ptr ac 0
 e4:tm 4=.ptr ec 0
theorem tI{i:Nat}:∀(l:List (Nat×AV))(tm:Nat->AV),(∀x∈l,x.1≠i)->aj tm l i=tm i
 |[],_,_=>rfl
 |x::l,tm,hl=>by
  have hx:=hl x (by simp)
  show aj (eZ tm x.1 x.2) l i=tm i
  rw[tI l _ (fun y hy=>hl y (by simp[hy])),lY (fun e=>hx e.symm)]
theorem S8.aj{tm:Nat->AV}{s:ByteArray}{rc ac ec:Nat}(t:S8 tm s rc ac ec)(l:List (Nat×AV))(hl:∀x∈l,4<x.1):S8 (aj tm l) s rc ac ec:=
 ⟨(tI l tm fun x hx=>by have:=hl x hx;omega).trans t.e0,(tI l tm fun x hx=>by have:=hl x hx;omega).trans t.e2,(tI l tm fun x hx=>by have:=hl x hx;omega).trans t.e3,(tI l tm fun x hx=>by have:=hl x hx;omega).trans t.e4⟩
section
variable {h:AH} {M:Nat->Prop} {R:AE->AH->Prop} {E:Env} {w:World} {s:ByteArray} {rc ac ec:Nat}
theorem Gl(hr:Rel E h w){tm:Nat->AV}{h1 h2:AH}{x:AV}{a e:Int}(t:S8 tm s rc ac ec)(n1:h.next<=rc)(n2:h.next<=ac)(n3:h.next<=ec)(f0:Fr h h1 (fun _=>False))(c0:RC h1 rc ac ec aV (.sc (.int .i64 0)) (.sc (.int .i64 0)))(f2:Fr h1 h2 (fun _=>False))
  (hk:∀fm h3,S8 fm s rc ac ec->fm 5=x->RC h3 rc ac ec aV (.sc (.int .i64 a)) (.sc (.int .i64 e))->Fr h h3 (fun _=>False)->(∀id o,h2.obj id=some o->o.ty≠3->o.ty≠28->h3.obj id=some o)->X8 h M R E w ⟨fm,[]⟩ h3) :
  cl (.cM [x,.sc (.int .i64 a),.sc (.int .i64 e)]) 0 fun t33=>cl (.cM [x,.sc (.int .i64 a),.sc (.int .i64 e)]) 1 fun t34=>cl (.cM [x,.sc (.int .i64 a),.sc (.int .i64 e)]) 2 fun t35=>
    aG (some 1) (.ptr ac 0) t34 h2 (fun id=>M id\/h.next<=id) fun yz=>aG (some 1) (.ptr ec 0) t35 yz (fun id=>M id\/h.next<=id) fun vv=>
    TC Pg 36 (fun id=>M id\/h.next<=id) E h w (Code.at ax.code [1,1]) (bodyPostD Pg Tryz.f19 (pC E h M w R)) ⟨aj tm [(8,.sc (.string s)),(9,.cM [x,.sc (.int .i64 a),.sc (.int .i64 e)]),(7,.cM [x,.sc (.int .i64 a),.sc (.int .i64 e)]),(10,t33),(11,t34),(12,t35),(5,t33)],[]⟩ vv:=by
 have c2:=c0.fr f2 (fun h=>h) (fun h=>h) (fun h=>h)
 obtain⟨d12,d13,d23⟩:=c0.ne
 have f5:=c2.e
 simp only[dx,zA,zB,ah,aD,c2.a,eJ,cH,AH.cb,Ne.symm d23,if_false,f5]
 refine⟨⟨.inr n2,rfl,rfl,by simp⟩,⟨.inr n3,rfl,rfl,by simp⟩,?_⟩
 have t2:=t.aj [(8,.sc (.string s)),(9,.cM [x,.sc (.int .i64 a),.sc (.int .i64 e)]),(7,.cM [x,.sc (.int .i64 a),.sc (.int .i64 e)]),(10,x),(11,.sc (.int .i64 a)),(12,.sc (.int .i64 e)),(5,x)] (by simp)
 have t25:Go.Ab.aj tm [(8,.sc (.string s)),(9,.cM [x,.sc (.int .i64 a),.sc (.int .i64 e)]),(7,.cM [x,.sc (.int .i64 a),.sc (.int .i64 e)]),(10,x),(11,.sc (.int .i64 a)),(12,.sc (.int .i64 e)),(5,x)] 5=x:=by simp
 have cc:RC ((h2.put ac 0 [.sc (.int .i64 a)]).put ec 0 [.sc (.int .i64 e)]) rc ac ec aV (.sc (.int .i64 a)) (.sc (.int .i64 e)):=
  ⟨by simp[AH.cb,c2.r,d12,d13],by simp[AH.cb,c2.a,d23],by simp[AH.cb,c2.e,Ne.symm d23]⟩
 have ff:Fr h ((h2.put ac 0 [.sc (.int .i64 a)]).put ec 0 [.sc (.int .i64 e)]) (fun _=>False):=((f0.trans (f2.mono fun _ h=>h.elim)).put (.inr n2)).put (.inr n3)
 have dA:∀id o,h2.obj id=some o->o.ty≠3->o.ty≠28->((h2.put ac 0 [.sc (.int .i64 a)]).put ec 0 [.sc (.int .i64 e)]).obj id=some o:=fun id o ho h3 mV=>by
  rw[AH.ja (b5 ho c2.e mV),AH.ja (b5 ho c2.a h3)]
  exact ho
 have:=hk _ _ t2 t25 cc ff dA
 generalize Go.Ab.aj tm [(8,.sc (.string s)),(9,.cM [x,.sc (.int .i64 a),.sc (.int .i64 e)]),(7,.cM [x,.sc (.int .i64 a),.sc (.int .i64 e)]),(10,x),(11,.sc (.int .i64 a)),(12,.sc (.int .i64 e)),(5,x)]=ot at *
 refine pB Tryz.mixed hr (pl:=ax.pl) VX (by kernel_rfl) ?_
 rw[V1]
 exact this
theorem Gm(hr:Rel E h w){a e:Int}(cC:e≠0)(hR2:∀h',Fr h h' (fun _=>False)->R (.ret (.cM [aV,.sc (.int .i64 a),.sc (.int .i64 e)])) h'){fm:Nat->AV}{h3:AH}(t:S8 fm s rc ac ec)(n1:h.next<=rc)(n2:h.next<=ac)(n3:h.next<=ec)
  (c3:RC h3 rc ac ec aV (.sc (.int .i64 a)) (.sc (.int .i64 e))) (f3:Fr h h3 (fun _=>False)):X8 h M R E w ⟨fm,[]⟩ h3:=by
 obtain⟨d12,d13,d23⟩:=c3.ne
 have Cb:(e != 0)=true:=by simpa using cC
 unfold X8
 simp only[ax.t11,t.e4,aF,c3.e,aB,zA,ah,cZ,Cb]
 have jc:aj fm [(13,.sc (.int .i64 e)),(14,.sc (.bool true))] 14=.sc (.bool true):=by simp
 have t2:=t.aj [(13,.sc (.int .i64 e)),(14,.sc (.bool true))] (by simp)
 generalize Go.Ab.aj fm [(13,.sc (.int .i64 e)),(14,.sc (.bool true))]=ot at *
 simp only[ax.t10,jc,ao,zF,zC,zI,zD]
 unfold Y8
 simp only[ax.t9]
 refine⟨fun i=>if i=0 then ac else ec,by simp[c3.a,c3.e],?_⟩
 have ca:=c3.a
 have ce:=c3.e
 simp only[t2.e2,t2.e3,t2.e4,aF,ca,ce,c3.r,aB,zA,ah,aD,eJ,HM,cH,AH.cb,d12,d13,d23,Ne.symm d12,Ne.symm d13,Ne.symm d23,if_false]
 refine⟨rfl,rfl,⟨⟨.inr n1,?_⟩,rfl,rfl,by simp⟩,⟨⟨.inr n2,?_⟩,rfl,rfl,by simp⟩,⟨.inr n3,rfl,rfl,by simp⟩,?_⟩
 ·simp[d12,d13]
 ·simp[d23]
 have t4:=t2.aj [(15,.sc (.int .i64 a)),(16,.sc (.int .i64 e))] (by simp)
 refine OH (x:=aV) (y:=.sc (.int .i64 a)) (z:=.sc (.int .i64 e)) hr rfl t4.e2 t4.e3 t4.e4 ⟨?_,?_,?_⟩ (hR2 _ ?_)
 ·simp[AH.cb,c3.r,d12,d13]
 ·simp[AH.cb,ca,d23,Ne.symm d12]
 ·simp[AH.cb,ce,Ne.symm d13,Ne.symm d23]
 ·exact((f3.put (.inr n1)).put (.inr n2)).put (.inr n3)
theorem OJ(hr:Rel E h w){L:List Tok}(hL:oM L) (hR:sf (vK L s.size (L.length+1) 0 []) (fun rows=>∀x h',fh h' x rows->cz (h.next<=·) x->Fr h h' (fun _=>False)->R (.ret (.cM [x,.sc (.int .i64 0),.sc (.int .i64 0)])) h')
  (fun e=>∀h',Fr h h' (fun _=>False)->R (.ret (.cM [aV,.sc (.int .i64 e.1),.sc (.int .i64 e.2)])) h')) {fm:Nat->AV} {h3:AH} {x:AV} (t:S8 fm s rc ac ec) (g5:fm 5=x) (n1:h.next<=rc) (n2:h.next<=ac) (n3:h.next<=ec)
  (c3:RC h3 rc ac ec aV (.sc (.int .i64 0)) (.sc (.int .i64 0))) (f3:Fr h h3 (fun _=>False)) (hx:bw Tok.enc 3 117 h3 x L):X8 h M R E w ⟨fm,[]⟩ h3:=by
 have Cb:((0:Int) != 0)=false:=by decide
 unfold X8
 simp only[ax.t11,t.e4,aF,c3.e,aB,zA,ah,cZ,Cb]
 have jc:aj fm [(13,.sc (.int .i64 0)),(14,.sc (.bool false))] 14=.sc (.bool false):=by simp
 have k5:aj fm [(13,.sc (.int .i64 0)),(14,.sc (.bool false))] 5=x:=by simp[g5]
 have t2:=t.aj [(13,.sc (.int .i64 0)),(14,.sc (.bool false))] (by simp)
 generalize Go.Ab.aj fm [(13,.sc (.int .i64 0)),(14,.sc (.bool false))]=ot at *
 simp only[ax.t10,jc,ao,zE,zC,zH,zD]
 unfold K8
 refine pB Tryz.mixed hr (pl:=ax.pl) VW (by kernel_rfl) ?_
 rw[ax.TF]
 simp only[ax.t7,t2.e2,t2.e3,t2.e4]
 show TC _ _ _ _ _ _ _ _ ⟨aj ot [(17,.fn (.func 34) [] [.ptr rc 0,.ptr ac 0,.ptr ec 0])],[⟨.func 34,[.ptr rc 0,.ptr ac 0,.ptr ec 0],[]⟩]⟩ h3
 have j5:aj ot [(17,.fn (.func 34) [] [.ptr rc 0,.ptr ac 0,.ptr ec 0])] 5=x:=by simp[k5]
 have t3:=t2.aj [(17,.fn (.func 34) [] [.ptr rc 0,.ptr ac 0,.ptr ec 0])] (by simp)
 generalize Go.Ab.aj ot [(17,.fn (.func 34) [] [.ptr rc 0,.ptr ac 0,.ptr ec 0])]=SU at *
 refine pB Tryz.mixed hr (pl:=ax.pl) VV (by kernel_rfl) ?_
 rw[ax.IC]
 simp only[ax.t6,t3.e0,j5,D7,zH,J9]
 have XV:cy x=some [x]/\cB x=true:=by
  rcases hx with⟨rfl,_⟩ |⟨id,rfl,_⟩<;>exact⟨rfl,rfl⟩
 refine⟨[x,.sc (.int .i64 0),.sc (.int .i64 s.size),aV],?_,?_⟩
 ·simp[dS,XV.1]
 refine⟨[x,.sc (.int .i64 0),.sc (.int .i64 s.size),aV],rfl,by simp only[List.all_cons,XV.2,List.all_nil];rfl,?_⟩
 have r5:=AH.cK h3 (aO [x,.sc (.int .i64 0),.sc (.int .i64 s.size),aV] 4 89)
 have f5:=(Fr.refl (h:=h3) (S:=fun _=>False)).alloc (aO [x,.sc (.int .i64 0),.sc (.int .i64 s.size),aV] 4 89)
 have c5:=c3.fr f5 (fun h=>h) (fun h=>h) (fun h=>h)
 have YJ:=f3.trans (f5.mono fun _ h=>h.elim)
 have n4:h.next<=h3.next:=f3.next
 have t5:∀u v2:AV,T8 ⟨aj SU [(18,x),(19,.sc (.string s)),(20,.sc (.int .i64 s.size)),(21,u),(22,v2),(6,.ptr h3.next 0)],[⟨.func 34,[.ptr rc 0,.ptr ac 0,.ptr ec 0],[]⟩]⟩ rc ac ec h3.next x:=fun u v2=>
  have tt:=t3.aj [(18,x),(19,.sc (.string s)),(20,.sc (.int .i64 s.size)),(21,u),(22,v2),(6,.ptr h3.next 0)] (by simp)
  ⟨rfl,tt.e2,tt.e3,tt.e4,by simp[j5],by simp⟩
 rcases hx with⟨rfl,rfl⟩ |⟨id,rfl,ho⟩
 ·exact L7 (M:=M) hr (t5 _ _) c5 n1 n2 n3 r5 YJ hR
 ·exact OI (M:=M) (L:=L) (en:=s.size) (tk:=id) hr hL (t5 _ _) c5 n1 n2 n3 n4 ⟨r5,f5.obj ho (fun h=>h),.nil⟩ YJ hR
end
theorem ME{s:ByteArray}{h:AH}{M:Nat->Prop}{R:AE->AH->Prop}(hR:Gf s h R):ay Pg 19 [.sc (.string s)] h M R:=by
 intro E w dY hr ha
 refine calls_of_wp_defers (c:=ax.code) Tryz.func19 rfl ?_
 have main:TC Pg 36 (fun id=>M id\/h.next<=id) E h w ax.code (bodyPostD Pg Tryz.f19 (pC E h M w R)) (s0 [.sc (.string s)]) h:=by
  refine pB Tryz.mixed hr (pl:=ax.pl) VZ (by kernel_rfl) ?_
  rw[ax.Po]
  simp only[ax.t13,aN]
  refine⟨rfl,rfl,rfl,?_⟩
  simp only[AH.bU]
  have c0:RC (((h.alloc (aO ([.slice none 0 0].map AV.sc) 1 43)).alloc (aO ([.int .i64 0].map AV.sc) 1 3)).alloc (aO ([.int .i64 0].map AV.sc) 1 28)) h.next (h.next+1) (h.next+2) aV (.sc (.int .i64 0)) (.sc (.int .i64 0)):=
   ⟨by simp[AH.b9,AH.bU];omega,by simp[AH.b9,AH.bU],by simp[AH.b9,AH.bU]⟩
  have f0:=(((Fr.refl (h:=h) (S:=fun _=>False)).alloc (aO ([.slice none 0 0].map AV.sc) 1 43)).alloc (aO ([.int .i64 0].map AV.sc) 1 3)).alloc (aO ([.int .i64 0].map AV.sc) 1 28)
  generalize ((h.alloc (aO ([.slice none 0 0].map AV.sc) 1 43)).alloc (aO ([.int .i64 0].map AV.sc) 1 3)).alloc (aO ([.int .i64 0].map AV.sc) 1 28)=h1 at *
  have t0:S8 (aj (s0 [.sc (.string s)]).tm [(2,.ptr h.next 0),(3,.ptr (h.next+1) 0),(4,.ptr (h.next+2) 0)]) s h.next (h.next+1) (h.next+2):=⟨by simp,by simp,by simp,by simp⟩
  show TC _ _ _ _ _ _ _ _ ⟨aj (s0 [.sc (.string s)]).tm [(2,.ptr h.next 0),(3,.ptr (h.next+1) 0),(4,.ptr (h.next+2) 0)],[]⟩ h1
  generalize aj (s0 [.sc (.string s)]).tm [(2,.ptr h.next 0),(3,.ptr (h.next+1) 0),(4,.ptr (h.next+2) 0)]=tm at *
  have n1:h.next<=h.next:=zU _
  have n2:h.next<=h.next+1:=by omega
  have n3:h.next<=h.next+2:=by omega
  refine pB Tryz.mixed hr (pl:=ax.pl) VY (by kernel_rfl) ?_
  rw[ax.Pp]
  simp only[ax.t12,t0.e0,t0.e3,t0.e4]
  refine⟨fun _=>False,fun _ h=>h.elim,QX ?_⟩
  unfold Gf pX at hR
  unfold Jm
  by_cases hb:65536<s.size
  ·rw[zX hb]at hR ⊢
   intro h2 m1 m2
   exact Gl hr t0 n1 n2 n3 f0 c0 ⟨m1,fun i hi _=>m2 i hi⟩ (fun fm h3 t2 _ c3 f3 _=>Gm hr (by decide) hR t2 n1 n2 n3 c3 f3)
  rw[zW hb]at hR ⊢
  cases ic:iZ s 0 [] with
  |error p=>
   rw[ic]at hR
   intro h2 m1 m2
   exact Gl hr t0 n1 n2 n3 f0 c0 ⟨m1,fun i hi _=>m2 i hi⟩ (fun fm h3 t2 _ c3 f3 _=>Gm hr (show(90:Int)≠0 by decide) hR t2 n1 n2 n3 c3 f3)
  |ok L=>
   rw[ic]at hR
   simp only at hR
   have hL:=Mw (by omega) ic
   intro x h2 hx ix m1 m2
   refine Gl hr t0 n1 n2 n3 f0 c0 ⟨m1,fun i hi _=>m2 i hi⟩ (fun fm h3 t2 g5 c3 f3 dA=>OJ hr hL hR t2 g5 n1 n2 n3 c3 f3 ?_)
   rcases hx with hx |⟨id,hx,ho⟩
   ·exact .inl hx
   ·exact .inr ⟨id,hx,dA id _ ho (by show(117:Nat)≠3;decide) (by show(117:Nat)≠28;decide)⟩
 exact main E w _ (Step.refl hr) (Ij ha (n:=36) (by simp))
end
section
open Go.Ab
def qv(p:Int->Bool)(s:ByteArray):Nat->Nat->Nat
 |0,i=>i
 |n+1,i=>if i<s.size then(if p (dL s i) then qv p s n (i+1) else i) else i
theorem G2(p:Int->Bool)(s:ByteArray):∀(n i:Nat),s.size-i<=n->qv p s n i=fE p s i
 |0,i,h=>by rw[qv,fE,dif_neg (by omega)]
 |n+1,i,h=>by
  rw[qv,fE]
  by_cases hi:i<s.size
  ·have hb:dL s i=s[i].toNat:=by simp[dL,hi]
   rw[zX hi,dif_pos hi,hb,G2 p s n (i+1) (by omega)]
  ·rw[zW hi,dif_neg hi]
def MU(s:ByteArray)(i:Nat)(c:Int):Qu:=
 if tL c then .skip (i+1)
 else if c==35 then .skip (qv (fun c=>c != 10) s s.size i)
 else if eY c then .tok ⟨1,s.extract i (qv eU s s.size i),i⟩ (qv eU s s.size i)
 else if isDigit c then(if decide (qv isDigit s s.size i<s.size)&&eY (dL s (qv isDigit s s.size i)) then .err (qv isDigit s s.size i) else .tok ⟨2,s.extract i (qv isDigit s s.size i),i⟩ (qv isDigit s s.size i))
 else if rp c then .tok ⟨3,s.extract i (i+1),i⟩ (i+1)
 else .err i
theorem Ry(s:ByteArray)(i:Nat)(c:Int):MU s i c=sF s i c:=by
 unfold MU sF
 simp only[G2 _ s s.size i (by omega)]
def xw(s:ByteArray):Nat->Nat->List Tok->Except Nat (List Tok)
 |0,_,acc=>.ok acc
 |n+1,i,acc=>if i<s.size then
   match MU s i (dL s i) with
   |.skip j=>if i<j then xw s n j acc else .error 0
   |.tok t j=>if i<j then xw s n j (acc++[t]) else .error 0
   |.err j=>.error j
  else .ok acc
theorem yW(s:ByteArray):∀(n i:Nat)(acc:List Tok),s.size-i<=n->xw s n i acc=iZ s i acc
 |0,i,acc,h=>by rw[xw,iZ,dif_neg (by omega)]
 |n+1,i,acc,h=>by
  rw[xw,iZ]
  by_cases hi:i<s.size
  ·rw[zX hi,dif_pos hi,Ry]
   cases sF s i (dL s i) with
   |skip j=>
    simp only
    by_cases hj:i<j
    ·rw[zX hj,zX hj,yW s n j acc (by omega)]
    ·rw[zW hj,zW hj]
   |tok t j=>
    simp only
    by_cases hj:i<j
    ·rw[zX hj,zX hj,yW s n j _ (by omega)]
    ·rw[zW hj,zW hj]
   |err j=>rfl
  ·rw[zW hi,dif_neg hi]
def J3(s:ByteArray):jV (List Row):=
 if 65536<s.size then .error (0,1)
 else match xw s s.size 0 [] with
 |.error p=>.error (p,90)
 |.ok L=>vK L s.size (L.length+1) 0 []
theorem vT(s:ByteArray):J3 s=pX s:=by
 unfold J3 pX
 rw[yW s s.size 0 [] (by omega)]
 try rfl
end
end Go.Proofs.YtjehibknlmehmaaGreatDoor
