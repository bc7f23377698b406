import Derived.Test.YtodnohicahohdaaGreatDoorYh24
set_option linter.all false
set_option maxRecDepth 100000
set_option maxHeartbeats 8000000
namespace Go.Proofs.Xe
open Go.RowKit Go.Proofs.Ins
def avQ(f:Nat):Nat:=bif Nat.beq f 246 then 134 else bif Nat.beq f 296 then 226 else bif Nat.beq f 297 then 227 else f
def avR(f:Nat):Nat:=bif Nat.beq f 246 then 143 else bif Nat.beq f 296 then 241 else bif Nat.beq f 297 then 229 else f
def Xc(ρ:Nat->Nat):Prop:=∀f,ρ f=f\/((∀a J,EN.Nw (ρ f) a J=EN.Nw f a J)/\∃F,EN.fns f=some F/\EN.fns (ρ f)=some (rnF ρ F))
def Xc.one{ρ:Nat->Nat}{f g:Nat}(b:gJ f)(c:gJ g)(e:ρ f=g)(h:c.a=rnF ρ b.a):(∀a J,EN.Nw (ρ f) a J=EN.Nw f a J)/\∃F,EN.fns f=some F/\EN.fns (ρ f)=some (rnF ρ F):=by subst e;exact⟨λa J=>(c.o a J).trans (b.o a J).symm,b.a,b.h,c.h.trans (br some h)⟩
def aqr:Xc avQ:=λf=>by
 cases h1:Nat.beq f 246 with
 |true=>obtain rfl:=aq h1;exact .inr (Xc.one iH EM rfl (by kernel_rfl))
 |false=>
  cases h2:Nat.beq f 296 with
  |true=>obtain rfl:=aq h2;exact .inr (Xc.one ig DX rfl (by kernel_rfl))
  |false=>
   cases h3:Nat.beq f 297 with
   |true=>obtain rfl:=aq h3;exact .inr (Xc.one jB pW rfl (by kernel_rfl))
   |false=>exact .inl (by unfold avQ;rw[h1,h2,h3];rfl)
def aqs:Xc avR:=λf=>by
 cases h1:Nat.beq f 246 with
 |true=>obtain rfl:=aq h1;exact .inr (Xc.one iH G8 rfl (by kernel_rfl))
 |false=>
  cases h2:Nat.beq f 296 with
  |true=>obtain rfl:=aq h2;exact .inr (Xc.one ig EO rfl (by kernel_rfl))
  |false=>
   cases h3:Nat.beq f 297 with
   |true=>obtain rfl:=aq h3;exact .inr (Xc.one jB ND rfl (by kernel_rfl))
   |false=>exact .inl (by unfold avR;rw[h1,h2,h3];rfl)
def Xd{J:St}(hW:WF J){p:Nat->Prop}{ev dv:B}(g:dV)(hg:jY p J.h ev dv g)(hs:CW 1000000 g)(hl:Xa 1000 g):
  aB EN 134 [.agg [ev,dv]] J λr J'=>(∃ov pI,r=.agg [ov,pI]/\CpG g (uz g.e) J.aj J'.h J'.aj ov pI)/\Fr J J':=
 aB.rn (ρ:=avQ) aqr (Fh hW g hg hs hl)
def Xf{J:St}(hW:WF J){p:Nat->Prop}{ev dv:B}(g:dV)(hg:jY p J.h ev dv g)(hs:CW 1000000 g)(hl:Xa 1000 g):
  aB EN 143 [.agg [ev,dv]] J λr J'=>(∃ov pI,r=.agg [ov,pI]/\CpG g (uz g.e) J.aj J'.h J'.aj ov pI)/\Fr J J':=
 aB.rn (ρ:=avR) aqs (Fh hW g hg hs hl)
def lkC(o:Option Bk)(e j:Int):Option V:=match o with
 |some ⟨c,some (0,0)⟩=>bif Ih .i64 e&&Ih .i64 j then some (.c (.bool (hasB c e j)))else none
 |_=>none
def upC(o:Option Bk)(e j:Int):Option Bk:=match o with
 |some ⟨c,some (0,0)⟩=>bif Ih .i64 e&&(Ih .i64 j&&Nat.ble c.length 1000)then some ⟨c++[.int .i64 e,.int .i64 j],some (0,0)⟩else none
 |_=>none
def ak6(m k x:O)(tm:Tr V)(J:St):wP (.V3 m k x) tm J=match m.ev tm,k.ev tm,x.ev tm with
  |.c (.mp b),.agg [.int .i64 e,.int .i64 j],.c (.bool true)=>(match upC (J.h b) e j with|some k=>some (.und,⟨hset J.h b k,J.aj⟩)|none=>none)
  |_,_,_=>none:=by
 simp only[wP]
 generalize m.ev tm=M
 generalize k.ev tm=Y
 generalize x.ev tm=X
 rcases M with⟨_|_|_|_|_|_|_|_|b|_⟩|_|_|_|_|_|_<;>try rfl
 rcases Y with _|l|_|_|_|_|_<;>try rfl
 rcases l with _|⟨p,_|⟨q,_|⟨_,_⟩⟩⟩<;>try rfl
 .cases p<;>try rfl
  next y e=>cases y<;>rfl
 .rcases p with⟨y,e⟩|_|_|_|_|_|_|_|_|_<;>try rfl
  cases y<;>try rfl
  rcases q with⟨y,j⟩|_|_|_|_|_|_|_|_|_<;>try rfl
  cases y<;>try rfl
  rcases X with⟨_|u|_|_|_|_|_|_|_|_⟩|_|_|_|_|_|_<;>try rfl
  cases u<;>try rfl
  dsimp only
  unfold upC
  generalize hg:J.h.get b=G
  rcases G with _|⟨c,_|⟨u,v⟩⟩<;>try rfl
  cases u<;>try rfl
  cases v<;>try rfl
  cases hQ:Ih .i64 e&&(Ih .i64 j&&Nat.ble c.length 1000)with
  |true=>simp only[hQ,bB];rfl
  |false=>simp only[hQ,dT]
 .rcases p with⟨y,e⟩|_|_|_|_|_|_|_|_|_<;>try rfl
  cases y<;>try rfl
  rcases q with⟨y,j⟩|_|_|_|_|_|_|_|_|_<;>try rfl
  cases y<;>rfl
section
variable {E:Env} (tm:Tr V) (J:St) (K:V→St→Prop)
def aqt:wpOp E .MI tm J K=K (.c (.mp J.aj)) ⟨hset J.h J.aj ⟨[],some (0,0)⟩,J.aj+1⟩:=by unfold wpOp oK;simp only[xq.kind,wP,lZ]
def ak7(m k:O):wpOp E (.lookup m k) tm J K=D9 (match m.ev tm,k.ev tm with|.c (.mp b),.agg [.int .i64 e,.int .i64 j]=>lkC (J.h b) e j|_,_=>none) λv=>K v J:=by rw[fP _ _ _ _ (by rfl) λ_ _ h=>by cases h];rfl
def avS(m k x:O):wpOp E (.V3 m k x) tm J K=match m.ev tm,k.ev tm,x.ev tm with
  |.c (.mp b),.agg [.int .i64 e,.int .i64 j],.c (.bool true)=>(match upC (J.h b) e j with|some k=>K .und ⟨hset J.h b k,J.aj⟩|none=>False)
  |_,_,_=>False:=by
 unfold wpOp oK
 simp only[xq.kind,ak6]
 generalize m.ev tm=M
 generalize k.ev tm=Y
 generalize x.ev tm=X
 rcases M with⟨_|_|_|_|_|_|_|_|b|_⟩|_|_|_|_|_|_<;>try rfl
 rcases Y with _|l|_|_|_|_|_<;>try rfl
 rcases l with _|⟨p,_|⟨q,_|⟨_,_⟩⟩⟩<;>try rfl
 .cases p<;>try rfl
  next y e=>cases y<;>rfl
 .rcases p with⟨y,e⟩|_|_|_|_|_|_|_|_|_<;>try rfl
  cases y<;>try rfl
  rcases q with⟨y,j⟩|_|_|_|_|_|_|_|_|_<;>try rfl
  cases y<;>try rfl
  rcases X with⟨_|u|_|_|_|_|_|_|_|_⟩|_|_|_|_|_|_<;>try rfl
  cases u<;>try rfl
  dsimp only
  cases upC (J.h b) e j<;>rfl
 .rcases p with⟨y,e⟩|_|_|_|_|_|_|_|_|_<;>try rfl
  cases y<;>try rfl
  rcases q with⟨y,j⟩|_|_|_|_|_|_|_|_|_<;>try rfl
  cases y<;>rfl
end
def MW:List Ins.Lg->List B
 |[]=>[]
 |x::r=>.int .i64 x.e:: .int .i64 x.k::MW r
def aeN:∀(l r:List Ins.Lg),MW (l++r)=MW l++MW r
 |[],_=>rfl
 |x::l,r=>by show _::_::MW (l++r)=_;rw[aeN l r];rfl
def ak8(l:List Ins.Lg)(x:Ins.Lg):MW l++[.int .i64 x.e,.int .i64 x.k]=MW (l++[x]):=by rw[aeN];rfl
def aeO:∀l:List Ins.Lg,(MW l).length=2*l.length
 |[]=>rfl
 |x::l=>by show(MW l).length+1+1=_;rw[aeO l,bA];omega
def ZT(e j:Int):∀l:List Ins.Lg,hasB (MW l) e j=EH l ⟨e,j⟩
 |[]=>rfl
 |x::l=>by
  show(bif eqI x.e e&&eqI x.k j then true else hasB (MW l) e j)=(x.e==e&&x.k==j||EH l ⟨e,j⟩)
  rw[ZT e j l];have h1:eqI x.e e=(x.e==e):=by rw[gA,V6,beq_iff_eq]
  have h2:eqI x.k j=(x.k==j):=by rw[gA,V6,beq_iff_eq]
  rw[h1,h2];cases(x.e==e&&x.k==j)<;>rfl
def Oq{n:Nat}(h:n<=9223372036854775807):Ih .i64 (.ofNat n)=true:=di h
def avT(l:List Ins.Lg)(a b:Nat)(ha:a<=9223372036854775807)(hb:b<=9223372036854775807)(hl:l.length<=500):upC (some ⟨MW l,some (0,0)⟩) (.ofNat a) (.ofNat b)=some ⟨MW (l++[⟨.ofNat a,.ofNat b⟩]),some (0,0)⟩:=by have h2:Nat.ble (MW l).length 1000=true:=di (by rw[aeO];omega);show(bif Ih .i64 (.ofNat a)&&(Ih .i64 (.ofNat b)&&Nat.ble (MW l).length 1000)then _ else none)=_;rw[Oq ha,Oq hb,h2,<-ak8];rfl
def avU(l:List Ins.Lg)(a b:Nat)(ha:a<=9223372036854775807)(hb:b<=9223372036854775807):lkC (some ⟨MW l,some (0,0)⟩) (.ofNat a) (.ofNat b)=some (.c (.bool (EH l ⟨.ofNat a,.ofNat b⟩))):=by show(bif Ih .i64 (.ofNat a)&&Ih .i64 (.ofNat b)then some (V.c (.bool (hasB (MW l) (.ofNat a) (.ofNat b))))else none)=_;rw[Oq ha,Oq hb,ZT];rfl
attribute [go_sem] aqt ak7 avS avT avU
abbrev Rt:=Int×Int×Int
def rtB(x:Rt):List B:=[.int .i64 x.1,.int .i64 x.2.1,.int .i64 x.2.2]
def aqu(g:dV)(i k:Nat):Bool:=EH (iy g.d g.d.length 0) ⟨.ofNat i,.ofNat k⟩
def rtA(g:dV)(i:Nat)(acc:List Rt):Nat->List Rt
 |0=>acc
 |k+1=>if(ix (ix g.e i).c k).h=.negSucc 0/\aqu g i k=false then rtA g i acc k++[(.negSucc 0,.ofNat i,.ofNat k)]else rtA g i acc k
def rtE(g:dV):Nat->List Rt
 |0=>[]
 |i+1=>rtA g i (rtE g i) (ix g.e i).c.length
def rtD(g:dV):Nat->List Rt
 |0=>rtE g g.e.length
 |d+1=>if 0<(ix g.d d).l.length/\holdL g.e (ix (ix g.d d).l 0)=.negSucc 0 then rtD g d++[(.ofNat d,.ofNat 0,.ofNat 0)]else rtD g d
def iL(g:dV):List Rt:=rtD g g.d.length
structure VG(g:dV):Prop where
 l:∀d,d<g.d.length->∀k,k<(ix g.d d).l.length->∃e j:Nat,ix (ix g.d d).l k=⟨.ofNat e,.ofNat j⟩/\e<g.e.length/\j<(ix g.e e).c.length
 ne:g.e.length<=8
 nd:g.d.length<=16
 nc:∀i,i<g.e.length->(ix g.e i).c.length<=24
 nl:∀d,d<g.d.length->(ix g.d d).l.length<=8
def CX{g:dV}(h:Jt g=0):VG g:=by
 unfold Jt at h;split at h
 .cases h
 next h0=>
 split at h
 .next h1=>exact absurd h h1
 next h1=>
 split at h
 .next h2=>exact absurd h h2
 next h2=>
 have h1:Gn (λi=>EF (ix g.e i)) g.e.length=0:=bh h1;refine⟨λd hd k hk=>?_,jb,jb,λi hi=>?_,λd hd=>?_⟩
 .have hD:=gI h d hd;unfold NC at hD;split at hD
  .cases hD
  split at hD
  .cases hD
  have hL:=gI hD k hk;unfold Zq at hL;dsimp only at hL;split at hL
  .cases hL
  next hr=>
  generalize ix (ix g.d d).l k=x at*;obtain⟨e,j⟩:=x;refine⟨e.toNat,j.toNat,?_,?_,?_⟩
  .have h1:Int.ofNat e.toNat=e:=eE (by dsimp only at hr;omega);have h2:Int.ofNat j.toNat=j:=eE (by dsimp only at hr;omega);rw[h1,h2]
  .dsimp only at hr;omega
  .dsimp only at hr;omega
 .have hE:=gI h1 i hi;unfold EF at hE;split at hE
  .cases hE
  .omega
 .have hD:=gI h d hd;unfold NC at hD;split at hD
  .cases hD
  .omega
section
variable {p:Nat→Prop} {h:Tr Bk} {v:B}
def jF.at{dl:List oM}(hD:jF p h v dl){i:Nat}(hi:i<dl.length):∃b o c,v=.sl b o dl.length c/\∃T:B,ld h b (o+i*4) 4 true=some (.agg [.bool (ix dl i).w.n,.str (ix dl i).w.s,.str (ix dl i).w.d,T])/\ld h b (o+i*4+3) 1 false=some (.c T)/\yh p h T (ix dl i).l:=by obtain⟨L,h1,h2⟩:=hD;obtain⟨b,o,c,e,-,hld⟩:=h1.pos jb;have hl:=h2 i hi;refine⟨b,o,c,e,L i,hld i hi,?_,hl⟩;rw[rM (hld i hi) 3 1 false jj jj];have:=hl.kn;unfold zT;simp[this]
def yh.at{l:List Ins.Lg}(hL:yh p h v l){i:Nat}(hi:i<l.length):∃b o c,v=.sl b o l.length c/\ld h b (o+i*2) 2 true=some (.agg [.int .i64 (ix l i).e,.int .i64 (ix l i).k])/\ld h b (o+i*2) 1 false=some (.c (.int .i64 (ix l i).e))/\ld h b (o+i*2+1) 1 false=some (.c (.int .i64 (ix l i).k)):=by obtain⟨b,o,c,e,-,hld⟩:=aZ.pos hL jb;have hld:=hld i hi;exact⟨b,o,c,e,hld,rM hld 0 1 false jj jj,rM hld 1 1 false jj jj⟩
end
def lT.ldh{p:Nat->Prop}{h:Tr Bk}{v:B}{l:List C5}(hC:lT p h v l){k:Nat}(hk:k<l.length):∃b o c,v=.sl b o l.length c/\ld h b (o+k*5) 1 false=some (.c (.int .i64 (ix l k).h))/\ld h b (o+k*5) 5 true=some (.agg (Ym (ix l k))):=by obtain⟨b,o,c,e,-,hld⟩:=aZ.pos hC jb;exact⟨b,o,c,e,rM (hld k hk) 0 1 false jj jj,hld k hk⟩
def ZU{l:List oM}{d k:Nat}(hk:k<(ix l d).l.length):iy l d (k+1)=iy l d k++[ix (ix l d).l k]:=by unfold iy;rw[bJ hk,gd]
def MX{l:List oM}{d:Nat}(hd:d<l.length):iy l d (ix l d).l.length=iy l (d+1) 0:=by unfold iy;rw[cj,cA,dc,bJ hd,cH];simp
def Xg(g:dV)(i:Nat)(acc:List Rt):∀k,(rtA g i acc k).length<=acc.length+k
 |0=>by unfold rtA;omega
 |k+1=>by
  have:=Xg g i acc k;unfold rtA;split
  .rw[az,bz];omega
  .omega
def Xh{g:dV}(hV:VG g):∀i,i<=g.e.length->(rtE g i).length<=i*24
 |0,_=>by unfold rtE;simp
 |i+1,h=>by have h1:=Xh hV i jb;have h2:=Xg g i (rtE g i) (ix g.e i).c.length;have h3:=hV.nc i jb;unfold rtE;omega
def Ot{g:dV}(hV:VG g):∀d,(rtD g d).length<=192+d
 |0=>by have:=Xh hV g.e.length jp;have:=hV.ne;unfold rtD;omega
 |d+1=>by
  have:=Ot hV d;unfold rtD;split
  .rw[az,bz];omega
  .omega
def aeP(l:List Rt):(bf l.length (λk=>rtB (ix l k))).take (l.length*3)=bf l.length (λk=>rtB (ix l k)):=jC λ_=>rfl
def aeQ(l:List Rt):l.length*3<=(bf l.length (λk=>rtB (ix l k))).length:=by rw[lS (e:=3) λ_=>rfl];exact jp
def Yo(h:Tr Bk)(v:B)(l:List Rt)(lo hi:Nat):Prop:=fJ h v l.length (λk=>rtB (ix l k)) 3 287 lo hi
def Yo.push{h:Tr Bk}{nx:Nat}{l:List Rt}{x:Rt}{lo:Nat}(hlo:lo<=nx){cells:List B}(hc:cells=bf l.length (λk=>rtB (ix l k))++rtB x)(hi:Nat)(hhi:nx<hi):Yo (hset h nx ⟨cells,some (3,287)⟩) (.sl nx 0 (l.length+1) .opn) (l++[x]) lo hi:=by unfold Yo;rw[az,bz];exact fJ.snoc (λ_ _=>rfl) hlo hc (λi hi=>by rw[gQ _ _ hi]) (by rw[gU]) hi hhi
def Yo.cases{h:Tr Bk}{v:B}{l:List Rt}{lo hi:Nat}(ho:Yo h v l lo hi):(l=[]/\v=.aQ)\/(0<l.length/\∃b,v=.sl b 0 l.length .opn/\h b=some ⟨bf l.length (λk=>rtB (ix l k)),some (3,287)⟩/\lo<=b/\b<hi):=by
 rcases ho with⟨h1,h2⟩|⟨h0,b,rfl,h1,h2,h3⟩
 .exact .inl ⟨eo h1,h2⟩
 .exact .inr ⟨h0,b,rfl,h1,h2,h3⟩
theorem Yo.nil{h:Tr Bk}{lo hi:Nat}:Yo h .aQ [] lo hi:=.inl ⟨rfl,rfl⟩
def UR{g:dV}(hV:VG g):∀d k,d<=g.d.length->k<=8->(iy g.d d k).length<=d*8+k
 |0,k,_,hk=>by unfold iy;simp only[cA,List.flatMap_nil,fW,cN];omega
 |d+1,k,h,hk=>by
  have h1:=UR hV d (ix g.d d).l.length jb (hV.nl d jb);have h2:=hV.nl d jb;have h3:iy g.d (d+1) k=iy g.d (d+1) 0++(ix g.d (d+1)).l.take k:=by unfold iy;simp
  rw[MX jb]at h1;rw[h3,az,cN];omega
def ak9{J:St}(hW:WF J){p:Nat->Prop}{ev dv:B}(g:dV)(hg:jY p J.h ev dv g)(h0:Jt g=0):
  aB EN 239 [.agg [ev,dv]] J λr J'=>∃rv,r=.c rv/\Yo J'.h rv (iL g) J.aj J'.aj/\Fr J J':=by
 refine aI (um.o _ _) um.h ?_
 unfold um
 dsimp only
 have hV:=CX h0
 have hek:=hg.e.kn
 have hdk:=hg.d.kn
 have hlenE:=hg.e.len
 have hlenD:=hg.d.choose_spec.1.len
 have hne:=hV.ne
 have hnd:=hV.nd
 simp(disch:=try exact jz)only[go_sem,hek,hdk,hlenD]
 refine bI.mono (Q:=λe tm J'=>e=.exit 0/\r8 tm 1=.c (.ptr J.aj 0)/\r8 tm 3=.c (.mp (J.aj+1))/\J'.h J.aj=some ⟨[ev,dv],none⟩/\J'.h (J.aj+1)=some ⟨MW (iy g.d g.d.length 0),some (0,0)⟩/\Fr J J'/\J.aj+1+1<=J'.aj)
  (aG (λq tm J'=>∃d,q=g.d.length-d/\d<=g.d.length/\r8 tm 1=.c (.ptr J.aj 0)/\r8 tm 3=.c (.mp (J.aj+1))/\r8 tm 18=.c dv/\r8 tm 19=jN g.d.length/\r8 tm 20=jN d
   /\J'.h J.aj=some ⟨[ev,dv],none⟩/\J'.h (J.aj+1)=some ⟨MW (iy g.d d 0),some (0,0)⟩/\Fr J J'/\J.aj+1+1<=J'.aj) g.d.length ?_ ?_) ?_
 .refine⟨0,jb,jb,?_⟩
  refine WP ?_
  refine⟨?_,?_,?_⟩
  .rfl
  .exact fr
  .omega
 .rintro q tm J' ⟨d,rfl,hd,t1,t3,qV,t19,t20,q0,q1,hf,hnx⟩
  have hle:=hf.le
  simp(disch:=try exact jz)only[go_sem,W4,qV,aC]
  refine aH (λhlt=>?_) (λhlt=>?_)
  .obtain⟨bd,od,cd,rfl,T,hT4,-,hL⟩:=hg.d.at hlt
   have hT:=hf.ld hW hT4
   have Ll:=hL.kn
   have hlenL:=hL.len
   have hnl:=hV.nl d hlt
   simp(disch:=try exact jz)only[go_sem,W4,qV,hT,Ll,hlenL]
   refine aG (λq tm σ3=>∃j,q=(ix g.d d).l.length-j/\j<=(ix g.d d).l.length/\r8 tm 1=.c (.ptr J.aj 0)/\r8 tm 3=.c (.mp (J.aj+1))/\r8 tm 18=.c (.sl bd od g.d.length cd)/\r8 tm 19=jN g.d.length/\r8 tm 20=jN d
    /\r8 tm 25=.c T/\r8 tm 26=jN (ix g.d d).l.length/\r8 tm 27=jN j
    /\σ3.h J.aj=some ⟨[ev,.sl bd od g.d.length cd],none⟩/\σ3.h (J.aj+1)=some ⟨MW (iy g.d d j),some (0,0)⟩/\Fr J σ3/\J.aj+1+1<=σ3.aj) (ix g.d d).l.length ?_ ?_
   .refine⟨0,jb,jb,?_⟩
    simp(disch:=try exact jz)only[go_sem,W4,qV,am]
    exact⟨q0,q1,fr,jb⟩
   .rintro q tm3 σ3 ⟨j,rfl,hj,t1,t3,qV,t19,t20,t25,t26,t27,q0,q1,hf3,hn3⟩
    have hle3:=hf3.le
    simp(disch:=try exact jz)only[go_sem,W4,qV,aC]
    refine aH (λhlj=>?_) (λhlj=>?_)
    .obtain⟨b2,o2,c2,rfl,hl2,-,-⟩:=hL.at hlj
     obtain⟨e,m,hx,he,hm⟩:=hV.l d hlt j hlj
     have hll:=UR hV d j hd jb
     have hls:=ZU hlj
     rw[hx]at hl2 hls
     have hl2:=hf3.ld hW hl2
     have hne2:=hV.nc e he
     simp(disch:=try exact jz)only[go_sem,W4,qV,hl2,q1]
     exact⟨(ix g.d d).l.length-(j+1),jb,j+1,rfl,jb,rfl,q0,by rw[hls],fr,jb⟩
    .have:j=(ix g.d d).l.length:=jb
     subst this
     rw[MX hlt]at q1
     simp(disch:=try exact jz)only[go_sem,t1,t3,qV,t19,t20]
     exact⟨g.d.length-(d+1),jb,d+1,rfl,jb,rfl,q0,q1,hf3,hn3⟩
  .have:d=g.d.length:=jb
   subst this
   simp(disch:=try exact jz)only[go_sem,am]
   exact⟨t1,t3,q0,q1,hf,hnx⟩
 .rintro _ tm J' ⟨rfl,t1,t3,q0,q1,hf,hnx⟩
  have hle:=hf.le
  simp(disch:=try exact jz)only[go_sem,W4,ay q0,hek,hlenE]
  refine bI.mono (Q:=λe tm J'=>e=.exit 4/\∃rv,r8 tm 1=.c (.ptr J.aj 0)/\r8 tm 8=.c rv/\J'.h J.aj=some ⟨[ev,dv],none⟩/\Yo J'.h rv (rtE g g.e.length) (J.aj+1+1) J'.aj/\Fr J J'/\J.aj+1+1<=J'.aj)
   (aG (λq tm J'=>∃i rv,q=g.e.length-i/\i<=g.e.length/\r8 tm 1=.c (.ptr J.aj 0)/\r8 tm 3=.c (.mp (J.aj+1))/\r8 tm 8=.c rv/\r8 tm 36=.c ev/\r8 tm 37=jN g.e.length/\r8 tm 38=jN i
    /\J'.h J.aj=some ⟨[ev,dv],none⟩/\J'.h (J.aj+1)=some ⟨MW (iy g.d g.d.length 0),some (0,0)⟩/\Yo J'.h rv (rtE g i) (J.aj+1+1) J'.aj/\Fr J J'/\J.aj+1+1<=J'.aj) g.e.length ?_ ?_) ?_
  .refine⟨0,.aQ,jb,jb,?_⟩
   refine W1 ?_
   exact⟨q0,q1,.nil,hf,hnx⟩
  .rintro q tm J' ⟨i,rv,rfl,hi,t1,t3,t8,t36,t37,t38,q0,q1,hO,hf,hnx⟩
   have hle:=hf.le
   refine W3 ?_
   refine aH (λhlt=>?_) (λhlt=>?_)
   .obtain⟨b,o,c,rfl,C,A,hE0,-,hC,hA⟩:=hg.e.at hlt
    have hE1:=hf.ld hW hE0
    have Om:=hC.kn
    have hAk:=hA.kn
    have Fe:=hC.len
    have hnc:=hV.nc i hlt
    have hEl:=Xh hV i hi
    simp(disch:=try exact jz)only[go_sem,W4,hE1,Om,hAk,Fe]
    refine aG (λq tm σ3=>∃k rv,q=(ix g.e i).c.length-k/\k<=(ix g.e i).c.length/\r8 tm 1=.c (.ptr J.aj 0)/\r8 tm 3=.c (.mp (J.aj+1))/\r8 tm 8=.c rv/\r8 tm 9=jN i/\r8 tm 36=.c (.sl b o g.e.length c)/\r8 tm 37=jN g.e.length/\r8 tm 38=jN i
     /\r8 tm 44=.c C/\r8 tm 45=jN (ix g.e i).c.length/\r8 tm 46=jN k
     /\σ3.h J.aj=some ⟨[.sl b o g.e.length c,dv],none⟩/\σ3.h (J.aj+1)=some ⟨MW (iy g.d g.d.length 0),some (0,0)⟩/\Yo σ3.h rv (rtA g i (rtE g i) k) (J.aj+1+1) σ3.aj/\Fr J σ3/\J.aj+1+1<=σ3.aj) (ix g.e i).c.length ?_ ?_
    .refine⟨0,rv,jb,jb,?_⟩
     refine W1 ?_
     refine⟨q0,q1,?_,fr,jb⟩
     exact fJ.mono hO (λb9 h1 h2=>by simp(disch:=omega) only[au]) jp jb
    .rintro q tm3 σ3 ⟨k,rv3,rfl,hk,t1,t3,t8,t9,t36,t37,t38,t44,t45,t46,q0,q1,hO3,hf3,hn3⟩
     have hle3:=hf3.le
     refine W3 ?_
     refine aH (λhlk=>?_) (λhlk=>?_)
     .obtain⟨b5,o5,c5,rfl,-,hc0⟩:=hC.ldh hlk
      have hc1:=hf3.ld hW hc0
      unfold Ym at hc1
      have hAl:=Xg g i (rtE g i) k
      have hA1:rtA g i (rtE g i) (k+1)=if(ix (ix g.e i).c k).h=.negSucc 0/\aqu g i k=false then rtA g i (rtE g i) k++[(.negSucc 0,.ofNat i,.ofNat k)]else rtA g i (rtE g i) k:=rfl
      generalize rtA g i (rtE g i) k=L at*
      have ala:EH (iy g.d g.d.length 0) ⟨.ofNat i,.ofNat k⟩=aqu g i k:=rfl
      simp(disch:=try exact jz)only[go_sem,W4,hc1]
      refine Af (λhh=>?_) (λhh=>?_)
      .cases hlg:aqu g i k with
       |true=>
        rw[hlg,ae (λh=>by cases h.2)]at hA1
        rw[hlg]at ala
        simp(disch:=try exact jz)only[go_sem,W4,hh,q1,ala]
        refine⟨(ix g.e i).c.length-(k+1),jb,k+1,rv3,rfl,jb,rfl,rfl,q0,?_,fr,jb⟩
        rw[hA1];exact fJ.mono hO3 (λb9 h1 h2=>by simp(disch:=omega) only[au]) jp jb
       |false=>
        rw[hlg,ab ⟨hh,rfl⟩]at hA1
        rw[hlg]at ala
        rcases hO3.cases with⟨rfl,rfl⟩|⟨hl0,bl,rfl,k1,k2,k3⟩
        .simp(disch:=try exact jz)only[go_sem,W4,hh,q1,ala]
         refine⟨(ix g.e i).c.length-(k+1),jb,k+1,_,rfl,jb,rfl,rfl,q0,?_,fr,jb⟩
         rw[hA1];exact Yo.push (l:=[]) jb rfl _ jb
        .have hrl:=aeQ L
         have hrt:=aeP L
         simp(disch:=try exact jz)only[go_sem,W4,hh,q1,ala,k1]
         refine⟨(ix g.e i).c.length-(k+1),jb,k+1,_,rfl,jb,rfl,rfl,q0,?_,fr,jb⟩
         rw[hA1];exact Yo.push jb (by rw[hrt];rfl) _ jb
      .rw[ae (λh=>hh h.1)]at hA1
       simp(disch:=try exact jz)only[go_sem,W4,hh]
       refine⟨(ix g.e i).c.length-(k+1),jb,k+1,rv3,rfl,jb,rfl,rfl,q0,q1,?_,fr,jb⟩
       rw[hA1];exact fJ.mono hO3 (λb9 h1 h2=>by simp(disch:=omega) only[au]) jp jb
     .have:k=(ix g.e i).c.length:=jb
      subst this
      simp(disch:=try exact jz)only[go_sem,t1,t3,t8,t9,t36,t37,t38]
      exact⟨g.e.length-(i+1),jb,i+1,rv3,rfl,jb,rfl,rfl,q0,q1,hO3,hf3,hn3⟩
   .have:i=g.e.length:=jb
    subst this
    simp(disch:=try exact jz)only[go_sem,am]
    exact⟨rv,t1,t8,q0,hO,hf,hnx⟩
  .rintro _ tm J' ⟨rfl,rv,t1,t8,q0,hO,hf,hnx⟩
   have hle:=hf.le
   simp(disch:=try exact jz)only[go_sem,W4,ay q0,hdk,hlenD]
   refine aG (λq tm J'=>∃d rv,q=g.d.length-d/\d<=g.d.length/\r8 tm 1=.c (.ptr J.aj 0)/\r8 tm 8=.c rv/\r8 tm 71=.c dv/\r8 tm 72=jN g.d.length/\r8 tm 73=jN d/\J'.h J.aj=some ⟨[ev,dv],none⟩/\Yo J'.h rv (rtD g d) (J.aj+1+1) J'.aj/\Fr J J'/\J.aj+1+1<=J'.aj) g.d.length ?_ ?_
   .refine⟨0,rv,jb,jb,?_⟩
    refine W1 ?_
    exact⟨q0,hO,hf,hnx⟩
   .rintro q tm J' ⟨d,rv,rfl,hd,t1,t8,t71,t72,t73,q0,hO,hf,hnx⟩
    have hle:=hf.le
    refine W3 ?_
    refine aH (λhlt=>?_) (λhlt=>?_)
    .obtain⟨bd,od,cd,rfl,T,hT4,-,hL⟩:=hg.d.at hlt
     have hT:=hf.ld hW hT4
     have Ll:=hL.kn
     have hlenL:=hL.len
     have hDl:=Ot hV d
     have hD1:rtD g (d+1)=if 0<(ix g.d d).l.length/\holdL g.e (ix (ix g.d d).l 0)=.negSucc 0 then rtD g d++[(.ofNat d,.ofNat 0,.ofNat 0)]else rtD g d:=rfl
     generalize rtD g d=L at*
     simp(disch:=try exact jz)only[go_sem,W4,hT,Ll,hlenL,aC]
     refine Af (λhl=>?_) (λhl=>?_)
     .obtain⟨b2,o2,c2,rfl,-,hle2,hlk2⟩:=hL.at hl
      obtain⟨e,m,hx,he,hm⟩:=hV.l d hlt 0 hl
      rw[hx]at hle2 hlk2 hD1
      have hle2:=hf.ld hW hle2
      have hlk2:=hf.ld hW hlk2
      obtain⟨b,o,c,rfl,C,A,-,hC0,hC,-⟩:=hg.e.at he
      obtain⟨b5,o5,c5,rfl,hh0,-⟩:=hC.ldh hm
      have hC1:=hf.ld hW hC0
      have hh1:=hf.ld hW hh0
      have hb2:=hf.wf.cZ hle2
      have hb:=hf.wf.cZ hC1
      have hb5:=hf.wf.cZ hh1
      have hq:=hf.wf.lt q0
      simp(disch:=try exact jz)only[go_sem,W4,ay q0,hek,hle2,hlk2,hC1,hh1,hl,Ll,hlenL]
      refine aH (λhh=>?_) (λhh=>?_)
      .rw[ab ⟨hl,hh⟩]at hD1
       rcases hO.cases with⟨rfl,rfl⟩|⟨hl0,bl,rfl,k1,k2,k3⟩
       .refine W0 ?_
        refine⟨g.d.length-(d+1),jb,d+1,_,rfl,jb,rfl,rfl,q0,?_,fr,jb⟩
        rw[hD1];exact Yo.push (l:=[]) jb rfl _ jb
       .have hrl:=aeQ L
        have hrt:=aeP L
        simp(disch:=try exact jz)only[go_sem,W4,k1]
        refine⟨g.d.length-(d+1),jb,d+1,_,rfl,jb,rfl,rfl,q0,?_,fr,jb⟩
        rw[hD1];exact Yo.push jb (by rw[hrt];rfl) _ jb
      .rw[ae (λh=>hh h.2)]at hD1
       refine W0 ?_
       refine⟨g.d.length-(d+1),jb,d+1,rv,rfl,jb,rfl,rfl,q0,?_,fr,jb⟩
       rw[hD1];exact fJ.mono hO (λb9 h1 h2=>by simp(disch:=omega) only[au]) jp jb
     .rw[ae (λh=>hl h.1)]at hD1
      simp(disch:=try exact jz)only[go_sem,W4,hl,Ll,hlenL]
      refine⟨g.d.length-(d+1),jb,d+1,rv,rfl,jb,rfl,rfl,q0,?_,fr,jb⟩
      rw[hD1];exact fJ.mono hO (λb9 h1 h2=>by simp(disch:=omega) only[au]) jp jb
    .have:d=g.d.length:=jb
     subst this
     simp(disch:=try exact jz)only[go_sem,t8]
     exact⟨rv,rfl,fJ.mono hO (λ_ _ _=>rfl) jb jp,hf⟩
def Ir(K:Nat->Rat):Nat->Bool
 |0=>false
 |n+1=>Ir K n||decide (K n<0)
def ald(K:Nat->Rat)(n:Nat):Int:=if Ir K n then .ofNat 7 else .ofNat 0
def UU{K:Nat->Rat}{j:Nat}(h:Ir K j=true):∀n,j<=n->Ir K n=true
 |0,h0=>by obtain rfl:j=0:=jb;exact h
 |n+1,hj=>by
  by_cases e:j=n+1
  .rw[<-e];exact h
  .show(Ir K n||decide (K n<0))=true;rw[UU h n jb];rfl
def asT(q:Rat):decide (sg q<Int.ofNat 0)=decide (q<0):=by
 by_cases h:q<0
 .rw[aw h];have h0:q≠0:=by grind
  unfold sg;rw[ae h0,ab h];rfl
 .rw[ap h];unfold sg;rw[ae h];split<;>rfl
def avV{J:St}(hW:WF J)(q:Rat)(hq:Sz q):aB EN 245 [.agg (rK q)] J λr J'=>r=.c (.bool (decide (q<0)))/\Fr J J':=by refine aI (lF.o _ _) lF.h ?_;unfold lF;dsimp only;have h2:=hq.two;simp(disch:=try exact jz)only[go_sem,asT];exact fr
def ale{f:Nat}(hng:∀{J:St},WF J->∀q:Rat,Sz q->aB EN f [.agg (rK q)] J λr J'=>r=.c (.bool (decide (q<0)))/\Fr J J'){J:St}(hW:WF J){p:Nat->Prop}{v:B}{n:Nat}(K:Nat->Rat)(hC:aZ p J.h 3 v n λj=>bY (K j))(hK:∀j,Sz (K j))(hn:n<=1000):
  aB EN 225 [.c v,.fn f []] J λr J'=>(∃i,r=.c (.int .i64 i)/\decide (Int.ofNat 0<=i)=Ir K n)/\Fr J J':=by
 refine aI (gZ.o _ _) gZ.h ?_
 unfold gZ
 dsimp only
 have hlen:=hC.len
 have hvk:=hC.kn
 simp(disch:=try exact jz)only[go_sem,hlen]
 refine aG (λq tm J'=>∃j,q=n-j/\j<=n/\r8 tm 0=.c v/\r8 tm 1=.fn f []/\r8 tm 7=jN n/\r8 tm 8=jN j/\Ir K j=false/\Fr J J') n ?_ ?_
 .refine⟨0,jb,jb,?_⟩
  refine WP ?_
  exact⟨rfl,Fr.refl hW⟩
 .rintro q tm J' ⟨j,rfl,hj,t0,t1,t7,t8,hb,hf⟩
  simp(disch:=try exact jz)only[go_sem,t7,t8,aC]
  refine aH (λhlt=>?_) (λhlt=>?_)
  .obtain⟨b,o,c,rfl,-,hld⟩:=hC.pos jb
   have hld:=hf.ld hW (hld j hlt)
   unfold bY at hld
   simp(disch:=try exact jz)only[go_sem,t0,t1,t8,hld]
   refine(hng hf.wf (K j) (hK j)).mono ?_
   rintro _ σ4 ⟨rfl,hf4⟩
   have acQ:=hf.trans hf4
   have hn1:Ir K (j+1)=(Ir K j||decide (K j<0)):=rfl
   refine WN ?_
   refine aH (λhq=>?_) (λhq=>?_)
   .refine WN ?_
    rw[hb,aw hq]at hn1
    exact⟨⟨_,rfl,by rw[UU hn1 n jb];exact aw kc⟩,acQ⟩
   .refine W0 ?_
    rw[hb,ap hq]at hn1
    exact⟨n-(j+1),jb,j+1,rfl,jb,rfl,hn1,acQ⟩
  .have:j=n:=jb
   subst this
   refine WN ?_
   exact⟨⟨_,rfl,by rw[hb];rfl⟩,hf⟩
def ZV{f:Nat}(hng:∀{J:St},WF J->∀q:Rat,Sz q->aB EN f [.agg (rK q)] J λr J'=>r=.c (.bool (decide (q<0)))/\Fr J J'){J:St}(hW:WF J){p:Nat->Prop}{v:B}{n:Nat}(K:Nat->Rat)(hC:aZ p J.h 3 v n λj=>bY (K j))(hK:∀j,Sz (K j))(hn:n<=1000):
  aB EN 131 [.c v,.fn f []] J λr J'=>r=.c (.bool (Ir K n))/\Fr J J':=by
 refine aI (fU.o _ _) fU.h ?_
 unfold fU
 dsimp only
 refine WN ?_
 refine(ale hng hW K hC hK hn).mono ?_
 rintro _ σ2 ⟨⟨i,rfl,hi⟩,hf⟩
 simp(disch:=try exact jz)only[go_sem,hi]
 exact hf
def acR{J:St}(hW:WF J){p:Nat->Prop}{v:B}{n:Nat}(K:Nat->Rat)(hC:aZ p J.h 3 v n λj=>bY (K j))(hK:∀j,Sz (K j))(hn:n<=1000):
  aB EN 147 [.c v] J λr J'=>r=.c (.int .i64 (ald K n))/\Fr J J':=by
 refine aI (nN.o _ _) nN.h ?_
 unfold nN
 dsimp only
 refine WN ?_
 refine(ZV avV hW K hC hK hn).mono ?_
 rintro _ σ2 ⟨rfl,hf⟩
 have hE:ald K n=if Ir K n then .ofNat 7 else .ofNat 0:=rfl
 cases hb:Ir K n with
 |true=>
  rw[hb]at hE
  refine WN ?_
  exact⟨by rw[hE];rfl,hf⟩
 |false=>
  rw[hb]at hE
  refine WN ?_
  exact⟨by rw[hE];rfl,hf⟩
def ZW(m K:Nat->Rat)(F:Nat->Bool)(i:Nat):Nat->Rat:=λj=>if j<i/\F j=true then wR (m j-K j) 0 else m j
def alf(m K:Nat->Rat)(F:Nat->Bool)(i:Nat)(h:F i=true):ZW m K F (i+1)=λj=>if j=i then wR (ZW m K F i i-K i) 0 else ZW m K F i j:=by
 funext j;unfold ZW;by_cases e:j=i
 .subst e;rw[ab ⟨jb,h⟩,ab rfl,ae (λh=>jb)]
 .rw[ae e];by_cases h1:j<i/\F j=true
  .rw[ab h1,ab ⟨jb,h1.2⟩]
  .rw[ae h1,ae (λh2=>h1 ⟨jb,h2.2⟩)]
def alg(m K:Nat->Rat)(F:Nat->Bool)(i:Nat)(h:F i=false):ZW m K F (i+1)=ZW m K F i:=by
 funext j;unfold ZW;by_cases h1:j<i/\F j=true
 .rw[ab h1,ab ⟨jb,h1.2⟩]
 .rw[ae h1,ae (λh2=>h1 ⟨by
   by_cases e:j=i
   .subst e;rw[h]at h2;exact absurd h2.2 jj
   .omega,h2.2⟩)]
def alh(m K:Nat->Rat)(F:Nat->Bool)(i:Nat):ZW m K F i i=m i:=ae λh=>jb
def avW{m:Nat->Rat}{C A:Nat->B}{n i:Nat}(hi:i<n)(q:Rat):yc (bf n (Kw m C A)) (i*5) (rK q)=some (bf n (Kw (λj=>if j=i then q else m j) C A)):=by
 have:=yP (e:=5) (k:=0) (vs:=(rK q)) (n:=n) (i:=i) (G:=Kw m C A) (λ_=>rfl) hi kc;rw[cy]at this;rw[this];show some _=some _;congr 1;refine bC λj hj=>?_;unfold je Kw;by_cases e:j=i
 .subst e;rw[ab rfl];simp
 .rw[ae e];simp[e]
def NL.aCd{el:List yg}{C A:Nat->B}{m m':Nat->Rat}{h h':Tr Bk}{b n ty lo hi:Nat}{c:Cap}(ho:NL (RE el C A) h (.sl b 0 n c) n (Kw m C A) 5 ty lo hi)(hb:h' b=some ⟨bf n (Kw m' C A),some (5,ty)⟩)(hk:∀x,x<b->h' x=h x):NL (RE el C A) h' (.sl b 0 n c) n (Kw m' C A) 5 ty lo hi:=by
 rcases ho with⟨-,h1⟩|⟨h0,b2,h1,k1,k2,k3,k4⟩
 .cases h1
 .cases h1;exact .inr ⟨h0,b,rfl,hb,k2,k3,λj hj=>Lr el C A j _ _ _ _ (k4 j hj) (λx hx=>hk x hx.2) λx hx=>hx⟩
def NL.ekn{el:List yg}{C A:Nat->B}{m:Nat->Rat}{h:Tr Bk}{v:B}{n ty lo hi:Nat}(ho:NL (RE el C A) h v n (Kw m C A) 5 ty lo hi)(j:Nat)(hj:j<n):(Kw m C A j).all B.kn=true:=by obtain⟨h1,h2⟩:=ho.el (λj _=>Lr el C A j) hj;unfold Kw;simp only[cw,cY,aZ.kn h1,iO.kn h2,wB,AP,cG]
def avX{r:R3}{K:Rat}(hr:r.fits 1000000)(hK:Sm 1000 K):Sz (r.q-K):=((acd r.n r.s r.d).sub hK).mono (by have:=hr.1;have:=hr.2;unfold szK;omega)
def ali{J:St}(hW:WF J){p p1 p2:Nat->Prop}{ev dv cv iv:B}(g:dV)(hg:jY p J.h ev dv g)(hs:CW 1000000 g)(hl:Xa 1000 g)(K:Nat->Rat)(F:Nat->Bool)(hC:aZ p1 J.h 3 cv g.e.length λj=>bY (K j))(hI:aZ p2 J.h 1 iv g.e.length λj=>[.bool (F j)])(hK:∀j,Sm 1000 (K j)):
  aB EN 148 [.agg [ev,dv],.c cv,.c iv] J λr J'=>(∃ov pI,r=.agg [ov,pI]/\CpG g (ZW (uz g.e) K F g.e.length) J.aj J'.h J'.aj ov pI)/\Fr J J':=by
 refine aI (oZ.o _ _) oZ.h ?_
 unfold oZ
 dsimp only
 have hek:=hg.e.kn
 have hdk:=hg.d.kn
 have azB:=hI.len
 have hne:=hl.n
 simp(disch:=try exact jz)only[go_sem,hek,hdk]
 refine aB.st (Fr J) (fr) λhF=>?_
 refine(Fh hF.wf g (hg.fr hW hF) hs hl).mono ?_
 rintro _ σ1 ⟨⟨ov,pI,rfl,C,A,mid,hN,hD,hm1,hm2⟩,hf1⟩
 have hF1:=hF.trans hf1
 have hle1:J.aj+1+1<=σ1.aj:=hf1.le
 have hm1:J.aj+1+1<=mid:=hm1
 have q1:σ1.h (J.aj+1)=some ⟨[.aQ,.aQ],none⟩:=hf1.get hF.wf (aA _ _ _)
 have hok:=hN.own.kn
 have ahw:=hD.kn
 have h00:ZW (uz g.e) K F 0=uz g.e:=by funext j;exact ae λh=>jb
 simp(disch:=try exact jz)only[go_sem,azB]
 refine aG (λq tm J'=>∃i,q=g.e.length-i/\i<=g.e.length/\r8 tm 1=.c cv/\r8 tm 6=.c (.ptr (J.aj+1) 0)/\r8 tm 7=.c (.ptr σ1.aj 0)/\r8 tm 13=.c iv/\r8 tm 14=jN g.e.length/\r8 tm 15=jN i
  /\J'.h (J.aj+1)=some ⟨[.aQ,.aQ],none⟩/\J'.h σ1.aj=some ⟨[ov,pI],none⟩/\NL (RE g.e C A) J'.h ov g.e.length (Kw (ZW (uz g.e) K F i) C A) 5 73 (J.aj+1+1) mid/\jF (λb=>mid<=b/\b<σ1.aj) J'.h pI (g.d.map acN)/\Fr J J'/\σ1.aj+1<=J'.aj) g.e.length ?_ ?_
 .refine⟨0,jb,jb,?_⟩
  refine WP ?_
  refine⟨q1,?_,?_,fr,jb⟩
  .rw[h00]
   refine NL.mono hN (λj _=>Lr g.e C A j) ?_ jp
   intro b h1 h2
   rw[au _ _ _ _ jb,au _ _ _ _ jb]
  .refine hD.keep ?_ λb hb=>hb
   intro b hb
   have:=hb.2
   rw[au _ _ _ _ jb,au _ _ _ _ jb]
 .rintro q tm J' ⟨i,rfl,hi,t1,t6,t7,t13,t14,t15,q1,q7,hN,hD,hf,hnx⟩
  have hle:=hf.le
  simp(disch:=try exact jz)only[go_sem,t14,t15,aC]
  refine aH (λhlt=>?_) (λhlt=>?_)
  .obtain⟨b5,o5,c5,rfl,-,bD⟩:=hI.pos jb
   have bD:=hf.ld hW (rW (bD i hlt)).1
   obtain⟨b6,o6,c6,rfl,-,bV⟩:=hC.pos jb
   have bV:=hf.ld hW (bV i hlt)
   unfold bY at bV
   cases hFi:F i with
   |false=>
    rw[hFi]at bD
    simp(disch:=try exact jz)only[go_sem,W4,bD]
    refine⟨g.e.length-(i+1),jb,i+1,rfl,jb,rfl,q1,q7,by rw[alg _ _ _ _ hFi];exact hN,hD,hf,hnx⟩
   |true=>
    rw[hFi]at bD
    rcases hN with⟨h0,-⟩|⟨h0,ob,rfl,k1,k2,k3,k4⟩
    .omega
    have hN:NL (RE g.e C A) J'.h (.sl ob 0 g.e.length .opn) g.e.length (Kw (ZW (uz g.e) K F i) C A) 5 73 (J.aj+1+1) mid:=.inr ⟨h0,ob,rfl,k1,k2,k3,k4⟩
    have aCe:=WU (e:=5) (i:=i) k1 (by rw[DI _ _ jb]) (λ_=>rfl) jj hN.ekn hlt
    have alj:=rM aCe 0 3 true jj jj
    rw[cx,cy]at alj
    unfold Kw zT at alj
    rw[alh]at alj
    simp only[gS,fu,cA,bA,List.length_nil,cw,cY,wB,AP,cG,Nat.reduceAdd,Nat.beq_refl,bB]at alj
    have hsM:Sz (uz g.e i):=avF (hs.e i hlt).m jj
    have hsK:Sz (K i):=(hK i).mono (by unfold szK;omega)
    have hsS:Sz (uz g.e i-K i):=avX (hs.e i hlt).m (hK i)
    have hz:=Sz.zero
    have hwr:=avW (m:=ZW (uz g.e) K F i) (C:=C) (A:=A) hlt (wR (uz g.e i-K i) 0)
    simp(disch:=try exact jz)only[go_sem,W4,bD,ay q7,hok,bV,alj,aJ k1,hwr]
    refine⟨g.e.length-(i+1),jb,i+1,rfl,jb,rfl,q1,q7,?_,?_,fr,hnx⟩
    .rw[alf _ _ _ _ hFi,alh]
     exact hN.aCd (aA _ _ _) λx hx=>au _ _ _ _ jb
    .refine hD.keep ?_ λb hb=>hb
     intro b hb
     have:=hb.1
     exact au _ _ _ _ jb
  .have:i=g.e.length:=jb
   subst this
   simp(disch:=try exact jz)only[go_sem,t6,t7,ay q7,hok,ahw,aJ q1]
   refine⟨⟨_,_,rfl,C,A,mid,?_,?_,jb,jb⟩,fr⟩
   .refine NL.down (NL.mono hN (λj _=>Lr g.e C A j) ?_ jp) (λj _=>Lr g.e C A j) jb
    intro b h1 h2
    exact au _ _ _ _ jb
   .refine hD.keep ?_ λb hb=>⟨hb.1,jb⟩
    intro b hb
    have:=hb.1
    exact au _ _ _ _ jb
def CpG.kn{g:dV}{m:Nat->Rat}{lo hi:Nat}{h:Tr Bk}{ov dv:B}(hc:CpG g m lo h hi ov dv):ov.kn=true/\dv.kn=true:=by obtain⟨C,A,mid,h1,h2,-⟩:=hc;exact⟨h1.own.kn,h2.kn⟩
def CpG.mono{g:dV}{m:Nat->Rat}{lo lo2 hi hi2:Nat}{h h':Tr Bk}{ov dv:B}(hc:CpG g m lo h hi ov dv)(hk:∀b,lo<=b->b<hi->h' b=h b)(h1:lo2<=lo)(h2:hi<=hi2):CpG g m lo2 h' hi2 ov dv:=by obtain⟨C,A,mid,k1,k2,k3,k4⟩:=hc;refine⟨C,A,mid,NL.down (NL.mono k1 (λj _=>Lr g.e C A j) (λb h1 h2=>hk b h1 jb) jp) (λj _=>Lr g.e C A j) h1,k2.keep (λb hb=>hk b jb hb.2) λb hb=>⟨hb.1,jb⟩,jb,jb⟩
end Go.Proofs.Xe
