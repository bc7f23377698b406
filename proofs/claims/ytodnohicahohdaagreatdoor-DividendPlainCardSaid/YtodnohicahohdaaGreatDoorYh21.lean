import Derived.Test.YtodnohicahohdaaGreatDoorYh20
set_option linter.all false
set_option maxHeartbeats 8000000
namespace Go.Proofs.Xe
open Go.RowKit Go.Proofs.Ins
def UM(nc:Nat)(al:List fD)(x:yQ):Prop:=((x.k=-1/\x.b=true)\/∃i:Nat,i<nc/\x.k=(i:Int)/\akY al x.k)/\∃w:Nat,w<=16/\x.a=sO ((Int.ofNat w:Int):Rat)
def H9(nc:Nat)(al:List fD)(t:List yQ):Prop:=∀k,k<t.length->UM nc al (ix t k)
def H9.snoc{nc:Nat}{al:List fD}{t:List yQ}{x:yQ}(h:H9 nc al t)(hx:UM nc al x):H9 nc al (t++[x]):=λk hk=>by
 rw[az,bz]at hk;by_cases e:k=t.length
 .rw[e,gU];exact hx
 .rw[gQ _ _ jb];exact h k jb
structure TI(J J':St)(tb i nc:Nat)(al:List fD)(ts:Nat->List yQ)(bs:Nat->Nat):Prop where
 b:J'.h tb=some ⟨ones 3 (λt=>mQ (ts t) (bs t)),none⟩
 f:NG J'.h 3 AU 5 134 ts bs (tb+1) J'.aj
 g:∀t,t<3->H9 nc al (ts t)
 l:∀t,t<3->(ts t).length<=i
 n:tb+1<=J'.aj
 fr:Fr J J'
def ahp(ts:Nat->List yQ)(bs:Nat->Nat)(t nx:Nat)(x:yQ):(λj=>mQ (aO ts t (ts t++[x]) j) (aO bs t nx j))=aO (λj=>mQ (ts j) (bs j)) t (.sl nx 0 ((ts t).length+1) .opn):=by
 funext j;unfold aO;split
 .next e=>rw[jm kc,az];rfl
 .rfl
def aeI(l:List yQ):l.length*5<=(bf l.length (λk=>AU (ix l k))).length:=by rw[lS (e:=5) λ_=>rfl];exact jp
def ZM(l:List yQ):(bf l.length (λk=>AU (ix l k))).take (l.length*5)=bf l.length (λk=>AU (ix l k)):=jC λ_=>rfl
section
variable {J J' : St} {tb i nc:Nat} {al:List fD} {ts:Nat→List yQ} {bs:Nat→Nat}
def TI.step(hT:TI J J' tb i nc al ts bs){σ3:St}(hf:Fr J' σ3):TI J σ3 tb (i+1) nc al ts bs:=by have hn:=hT.n;have hle:=hf.le;exact⟨by rw[hf.old _ jb];exact hT.b,hT.f.mono (λb _ hb=>hf.old b hb) hle,hT.g,λt ht=>by have:=hT.l t ht;omega,jb,hT.fr.trans hf⟩
def TI.push(hT:TI J J' tb i nc al ts bs){t nx n':Nat}{x:yQ}{h':Tr Bk}(ht:t<3)(hg:UM nc al x)(hb:h' tb=some ⟨ones 3 (aO (λj=>mQ (ts j) (bs j)) t (.sl nx 0 ((ts t).length+1) .opn)),none⟩)
  (hx:h' nx=some ⟨bf (ts t).length (λk=>AU (ix (ts t) k))++AU x,some (5,134)⟩) (ho:∀b,tb+1<=b->b<J'.aj->(0<(ts t).length->b≠bs t)->h' b=J'.h b) (hn:J'.aj<=nx) (hn':nx<n') (hf:Fr J ⟨h',n'⟩):
  TI J ⟨h',n'⟩ tb (i+1) nc al (aO ts t (ts t++[x])) (aO bs t nx):=by
 have hn0:=hT.n
 refine⟨?_,?_,λj hj=>?_,λj hj=>?_,by show tb+1<=n';omega,hf⟩
 .rw[ahp];exact hb
 .refine hT.f.push ht x rfl hx (λj hj e hp=>?_) jb hn hn'
  obtain⟨-,k2,k3⟩:=hT.f.blk j hj hp
  exact ho _ k2 k3 λhp2 e2=>e (hT.f.inj j t hj ht hp hp2 e2)
 .unfold aO
  split
  .next e=>exact(hT.g t ht).snoc hg
  .exact hT.g j hj
 .unfold aO
  split
  .next e=>rw[az,bz];have:=hT.l t ht;omega
  .have:=hT.l j hj;omega
end
def aZ.plt{J:St}(hW:WF J){p:Nat->Prop}{e n:Nat}{v:B}{G:Nat->List B}(hl:aZ p J.h e v n G):aZ (λb=>p b/\b<J.aj) J.h e v n G:=by
 rcases hl with h|⟨b,o,c,h1,h2,h3⟩
 .exact .inl h
 .exact .inr ⟨b,o,c,h1,λh=>⟨h2 h,hW.cZ (h3 0 h)⟩,h3⟩
def dQ.plt{J:St}(hW:WF J){p:Nat->Prop}{v:B}{l:fD}(hl:dQ p J.h v l):dQ (λb=>p b/\b<J.aj) J.h v l:=by obtain⟨T,k1,k2⟩:=hl;exact⟨T,k1.plt hW,λj hj=>(k2 j hj).plt hW⟩
def agree_end{J J':St}{tb i nc:Nat}{al:List fD}{ts:Nat->List yQ}{bs:Nat->Nat}(hW:WF J){p:Nat->Prop}{T:Nat->B}(hT2:∀j,j<al.length->dQ p J.h (T j) (ix al j))(Ll:∀j,j<al.length->(T j).kn=true)(hT:TI J J' tb i nc al ts bs)(hi:i<=nc+1)(htb:J.aj<=tb)
  {h':Tr Bk}{n' rb:Nat}(hr:h' rb=some ⟨bf (al.length+1) (λj=>[if j<al.length then T j else .sl tb 0 3 (.ex 3)]),some (1,137)⟩) (ho:∀b,b<J'.aj->h' b=J'.h b) (hrb:J'.aj<=rb) (hn:rb<n') (hf:Fr J ⟨h',n'⟩):
  (∃rv a,V.c (.sl rb 0 (al.length+1) .opn)=.c rv/\iO (λb=>p b\/J.aj<=b/\b<n') h' rv (al++[a])/\a.length=3/\∀t,t<3->H9 nc al (ix a t)/\(ix a t).length<=nc+1)/\Fr J ⟨h',n'⟩:=by
 have hle:=hT.fr.le
 have hn1:=hT.n
 have h3:∀t,t<3->ix [ts 0,ts 1,ts 2] t=ts t:=λt ht=>by
  match t,ht with
  |0,_=>rfl
  |1,_=>rfl
  |2,_=>rfl
 refine⟨⟨_,[ts 0,ts 1,ts 2],rfl,⟨λj=>if j<al.length then T j else .sl tb 0 3 (.ex 3),?_,λj hj=>?_⟩,rfl,λt ht=>?_⟩,hf⟩
 .have:(al++[[ts 0,ts 1,ts 2]]).length=al.length+1:=by simp
  rw[this]
  exact bK _ hr rfl (.inr ⟨jb,hn⟩) (λ_=>rfl) jj λj hj=>by
   dsimp only;split
   .next e=>simp only[cw,cY,Ll j e,cG]
   .rfl
 .have hj':j<al.length+1:=by simpa using hj
  dsimp only
  by_cases e:j<al.length
  .rw[ab e,gQ _ _ e]
   refine((hT2 j e).plt hW).keep (λb hb=>?_) λb hb=>.inl hb.1
   rw[ho b jb,hT.fr.old b hb.2]
  .rw[ae e]
   obtain rfl:j=al.length:=jb
   rw[gU]
   refine⟨λt=>mQ (ts t) (bs t),?_,λt ht=>?_⟩
   .have hb:h' tb=some ⟨bf 3 (λt=>[mQ (ts t) (bs t)]),none⟩:=by rw[ho tb jb];exact hT.b
    exact bK _ hb rfl (.inr ⟨htb,jb⟩) (λ_=>rfl) jj λj _=>by simp only[cw,cY,rE,cG]
   .have ht:t<3:=ht
    rw[h3 t ht]
    exact(hT.f.hlp (p:=λb=>tb+1<=b/\b<J'.aj) (λb h1 h2=>⟨h1,h2⟩) (λ_=>rfl) jj (λ_=>rfl) ht).keep (λb hb=>ho b hb.2) λb hb=>.inr ⟨jb,jb⟩
 .rw[h3 t ht]
  exact⟨hT.g t ht,by have:=hT.l t ht;omega⟩
set_option maxRecDepth 10000 in
def aqe{J:St}(hW:WF J){p:Nat->Prop}{x1 x2 x3 C A:B}(al:List fD)(hA:iO p J.h A al)(hl:avD al)(nc:Nat)(hC:lenV (.c C)=some (jN nc))(hnc:nc<=1000)(h1:x1.kn=true)(h2:x2.kn=true)(h3:x3.kn=true)(h4:C.kn=true)
  (p0 p1 p2:Nat) (b0:p0<=65535) (b1:p1<=65535) (b2:p2<=65535):
  aB EN 34 [.agg [x1,x2,x3,C,A],.agg [.int .u16 (.ofNat p0),.int .u16 (.ofNat p1),.int .u16 (.ofNat p2)]] J λr J'=>(∃rv a,r=.c rv/\iO (λb=>p b\/J.aj<=b/\b<J'.aj) J'.h rv (al++[a])/\a.length=3/\∀t,t<3->H9 nc al (ix a t)/\(ix a t).length<=nc+1)/\Fr J J':=by
 refine aI (Ip.o _ _) Ip.h ?_
 unfold Ip
 dsimp only
 have hAk:=hA.kn
 simp(disch:=try exact jz)only[go_sem,hC,h4]
 refine bI.mono (Q:=λe tm J'=>e=.exit 0/\∃ts bs,r8 tm 2=.c (.ptr J.aj 0)/\r8 tm 3=.c (.ptr (J.aj+1) 0)/\r8 tm 5=.c (.sl (J.aj+1+1) 0 3 (.ex 3))
  /\J'.h J.aj=some ⟨[x1,x2,x3,C,A],none⟩/\J'.h (J.aj+1)=some ⟨[.int .u16 (.ofNat p0),.int .u16 (.ofNat p1),.int .u16 (.ofNat p2)],none⟩/\TI J J' (J.aj+1+1) nc nc al ts bs) (aG (λq tm J'=>∃i ts bs,q=nc-i/\i<=nc/\r8 tm 2=.c (.ptr J.aj 0)/\r8 tm 3=.c (.ptr (J.aj+1) 0)/\r8 tm 5=.c (.sl (J.aj+1+1) 0 3 (.ex 3))/\r8 tm 6=jN p1/\r8 tm 17=jN nc/\r8 tm 18=jN i
  /\J'.h J.aj=some ⟨[x1,x2,x3,C,A],none⟩/\J'.h (J.aj+1)=some ⟨[.int .u16 (.ofNat p0),.int .u16 (.ofNat p1),.int .u16 (.ofNat p2)],none⟩/\TI J J' (J.aj+1+1) i nc al ts bs) nc ?_ ?_) ?_
 .refine⟨0,λ_=>[],λ_=>0,jb,jb,?_⟩
  refine WP ?_
  refine⟨?_,NG.nil _ _ _ _ _ _ _ _,λt _ k hk=>by simp at hk,λt _=>cL 0,jp,?_⟩
  .rw[aA];rfl
  .exact fr
 .rintro q tm J' ⟨i,ts,bs,rfl,hi,t2,t3,t5,t6,t17,qV,q1,q2,hT⟩
  have hle:=hT.fr.le
  have hn:=hT.n
  have hr:=wC p1 (2^min (2*i) 64) 9223372036854775807 jb
  simp(disch:=try exact jz)only[go_sem,t17,qV,aC]
  refine aH (λhlt=>?_) (λhlt=>?_)
  .simp(disch:=try exact jz)only[go_sem,t6,qV]
   have hx3:(p1/2^min (2*i) 64)&&&3<=3:=Nat.and_le_right
   generalize (p1/2^min (2*i) 64)&&&3=x at*
   refine Zg (λhx0=>?_) (λhx0=>?_)
   .simp(disch:=try exact jz)only[go_sem,W4,qV,hx0]
    exact⟨nc-(i+1),jb,i+1,ts,bs,rfl,jb,rfl,q1,q2,hT.step (Fr.refl hT.fr.wf)⟩
   .have UN:=hT.b
    simp(disch:=try exact jz)only[go_sem,t2,hx0,ay q1,h1,h2,h3,h4,hAk]
    refine(avE hT.fr.wf al (hA.fr hW hT.fr) hl h1 h2 h3 h4 (.ofNat i)).mono ?_
    rintro _ σ3 ⟨⟨fb,rfl,hfb⟩,hf3⟩
    have q1':=hf3.get hT.fr.wf q1
    have q2':=hf3.get hT.fr.wf q2
    simp(disch:=try exact jz)only[go_sem]
    cases fb
    .simp(disch:=try exact jz)only[go_sem,W4,qV]
     exact⟨nc-(i+1),jb,i+1,ts,bs,rfl,jb,rfl,q1',q2',hT.step hf3⟩
    .have Lp:=hT.step hf3
     have hf0:=hfb rfl
     have hF3:=Lp.fr
     have UN:=Lp.b
     have hn3:=Lp.n
     have hle3:=Lp.fr.le
     have hkn:=rE (ts (x-1)) (bs (x-1))
     have hpl:=aeI (ts (x-1))
     have hpt:=ZM (ts (x-1))
     have hxl:=Lp.l (x-1) jb
     have hr2:=wC p2 (2^min i 64) 9223372036854775807 jb
     have hr3:=wC p2 (2^min 6 16) 9223372036854775807 jb
     have hgood:∀(b:Bool) (w:Nat),w<=16->UM nc al ⟨.ofNat i,b,sO ((Int.ofNat w:Int):Rat)⟩:=λb w hw=>⟨.inr ⟨i,hlt,rfl,hf0⟩,w,hw,rfl⟩
     simp(disch:=try exact jz)only[go_sem,t3,ay q2']
     refine aH (λhcap=>?_) (λhcap=>?_)
     .by_cases hz:(ts (x-1)).length=0
      .have he:mQ (ts (x-1)) (bs (x-1))=.aQ:=by unfold mQ;rw[ab hz]
       simp(disch:=try exact jz)only[go_sem,W4,qV,ay q2',ay UN,UN,he]
       refine⟨nc-(i+1),jb,i+1,aO ts (x-1) (ts (x-1)++[⟨.ofNat i,true,sO ((Int.ofNat (p2/2^min 6 16%9):Int):Rat)⟩]),aO bs (x-1) (σ3.aj+1+1),rfl,jb,rfl,?_,?_,TI.push (i:=i) ⟨Lp.b,Lp.f,Lp.g,λt ht=>?_,Lp.n,Lp.fr⟩ jb (hgood true (p2/2^min 6 16%9) jb) ?_ ?_ ?_ ?_ ?_ ?_⟩
       .exact q1'
       .exact q2'
       .exact hT.l t ht
       .rw[hz,aA]
       .rw[au _ _ _ _ jb,aA,hz];rfl
       .intro b h1 h2 h3
        simp(disch:=omega) only[au]
       .omega
       .omega
       .exact fr
      .have he:=jm (l:=ts (x-1)) jb (bs (x-1))
       obtain⟨k1,k2,k3⟩:=Lp.f.blk (x-1) jb jb
       simp(disch:=try exact jz)only[go_sem,W4,qV,ay q2',ay UN,UN,he,k1,hpt]
       refine⟨nc-(i+1),jb,i+1,aO ts (x-1) (ts (x-1)++[⟨.ofNat i,true,sO ((Int.ofNat (p2/2^min 6 16%9):Int):Rat)⟩]),aO bs (x-1) (σ3.aj+1+1),rfl,jb,rfl,?_,?_,TI.push (i:=i) ⟨Lp.b,Lp.f,Lp.g,λt ht=>?_,Lp.n,Lp.fr⟩ jb (hgood true (p2/2^min 6 16%9) jb) ?_ ?_ ?_ ?_ ?_ ?_⟩
       .exact q1'
       .exact q2'
       .exact hT.l t ht
       .rw[aA]
       .rw[au _ _ _ _ jb,aA];rfl
       .intro b h1 h2 h3
        have h3:=h3 jb
        simp(disch:=first|assumption|omega) only[au,fE]
       .omega
       .omega
       .exact fr
     .by_cases hz:(ts (x-1)).length=0
      .have he:mQ (ts (x-1)) (bs (x-1))=.aQ:=by unfold mQ;rw[ab hz]
       simp(disch:=try exact jz)only[go_sem,W4,qV,ay UN,UN,he]
       refine⟨nc-(i+1),jb,i+1,aO ts (x-1) (ts (x-1)++[⟨.ofNat i,false,sO ((Int.ofNat (0):Int):Rat)⟩]),aO bs (x-1) (σ3.aj+1+1),rfl,jb,rfl,?_,?_,TI.push (i:=i) ⟨Lp.b,Lp.f,Lp.g,λt ht=>?_,Lp.n,Lp.fr⟩ jb (hgood false (0) jb) ?_ ?_ ?_ ?_ ?_ ?_⟩
       .exact q1'
       .exact q2'
       .exact hT.l t ht
       .rw[hz,aA]
       .rw[au _ _ _ _ jb,aA,hz];rfl
       .intro b h1 h2 h3
        simp(disch:=omega) only[au]
       .omega
       .omega
       .exact fr
      .have he:=jm (l:=ts (x-1)) jb (bs (x-1))
       obtain⟨k1,k2,k3⟩:=Lp.f.blk (x-1) jb jb
       simp(disch:=try exact jz)only[go_sem,W4,qV,ay UN,UN,he,k1,hpt]
       refine⟨nc-(i+1),jb,i+1,aO ts (x-1) (ts (x-1)++[⟨.ofNat i,false,sO ((Int.ofNat (0):Int):Rat)⟩]),aO bs (x-1) (σ3.aj+1+1),rfl,jb,rfl,?_,?_,TI.push (i:=i) ⟨Lp.b,Lp.f,Lp.g,λt ht=>?_,Lp.n,Lp.fr⟩ jb (hgood false (0) jb) ?_ ?_ ?_ ?_ ?_ ?_⟩
       .exact q1'
       .exact q2'
       .exact hT.l t ht
       .rw[aA]
       .rw[au _ _ _ _ jb,aA];rfl
       .intro b h1 h2 h3
        have h3:=h3 jb
        simp(disch:=first|assumption|omega) only[au,fE]
       .omega
       .omega
       .exact fr
  .have:i=nc:=jb
   subst this
   simp(disch:=try exact jz)only[go_sem,am]
   exact⟨ts,bs,t2,t3,t5,q1,q2,hT⟩
 .rintro _ tm J' ⟨rfl,ts,bs,t2,t3,t5,q1,q2,hT⟩
  have hF:=hT.fr
  have hle:=hT.fr.le
  have hn:=hT.n
  have UN:=hT.b
  have hr0:=wC p0 8 65535 b0
  have hr1:=wC p0 32 65535 b0
  have hr2:=wC p0 96 65535 b0
  show bI EN (.seq _ _) _ _ _
  refine aeH (λtm σ3=>∃ts bs i2,i2<=nc+1/\r8 tm 2=.c (.ptr J.aj 0)/\r8 tm 5=.c (.sl (J.aj+1+1) 0 3 (.ex 3))/\σ3.h J.aj=some ⟨[x1,x2,x3,C,A],none⟩/\TI J σ3 (J.aj+1+1) i2 nc al ts bs) ?_ ?_
  .simp(disch:=try exact jz)only[go_sem,t3,ay q2]
   refine aH (λhcap=>?_) (λhcap=>?_)
   .generalize hx:p0/32%3=x at*
    have hx3:x<3:=jb
    have hkn:=rE (ts x) (bs x)
    have hpl:=aeI (ts x)
    have hpt:=ZM (ts x)
    have hxl:=hT.l x hx3
    have hgood:UM nc al ⟨-1,true,sO ((Int.ofNat (p0/96%7):Int):Rat)⟩:=⟨.inl ⟨rfl,rfl⟩,_,jb,rfl⟩
    by_cases hz:(ts x).length=0
    .have he:mQ (ts x) (bs x)=.aQ:=by unfold mQ;rw[ab hz]
     simp(disch:=try exact jz)only[go_sem,W4,hx,ay q2,ay UN,UN,he]
     refine⟨aO ts x (ts x++[⟨-1,true,sO ((Int.ofNat (p0/96%7):Int):Rat)⟩]),aO bs x (J'.aj+1),nc+1,jb,q1,TI.push hT hx3 hgood ?_ ?_ ?_ ?_ ?_ ?_⟩
     .rw[hz,aA]
     .rw[au _ _ _ _ jb,aA,hz];rfl
     .intro b h1 h2 h3
      simp(disch:=omega) only[au]
     .omega
     .omega
     .exact fr
    .have he:=jm (l:=ts x) jb (bs x)
     obtain⟨k1,k2,k3⟩:=hT.f.blk x hx3 jb
     simp(disch:=try exact jz)only[go_sem,W4,hx,ay q2,ay UN,UN,he,k1,hpt]
     refine⟨aO ts x (ts x++[⟨-1,true,sO ((Int.ofNat (p0/96%7):Int):Rat)⟩]),aO bs x (J'.aj+1),nc+1,jb,q1,TI.push hT hx3 hgood ?_ ?_ ?_ ?_ ?_ ?_⟩
     .rw[aA]
     .rw[au _ _ _ _ jb,aA];rfl
     .intro b h1 h2 h3
      have h3:=h3 jb
      simp(disch:=first|assumption|omega) only[au,fE]
     .omega
     .omega
     .exact fr
   .simp(disch:=try exact jz)only[go_sem,am]
    exact⟨ts,bs,nc,jb,t2,t5,q1,hT⟩
  .rintro tm σ3 ⟨ts,bs,i2,hi2,t2,t5,q1,hT⟩
   have hF:=hT.fr
   have hle:=hT.fr.le
   have hn:=hT.n
   obtain⟨T,hT1,hT2⟩:=hA
   have Ll:∀j,j<al.length->(T j).kn=true:=λj hj=>by obtain⟨b,o,c,e,-,hld⟩:=hT1.pos jb;exact(rW (hld j hj)).2
   have hal:=hl.1
   have hAk:=hT1.kn
   by_cases h0:al.length=0
   .have hA0:A=.aQ\/∃b o c,A=.sl b o 0 c:=by
     rcases hT1 with⟨-,e⟩|⟨b,o,c,e,-⟩
     .exact .inl e
     .exact .inr ⟨b,o,c,by rw[e,h0]⟩
    have hfin:∀h':Tr Bk,h'=hset (hset σ3.h σ3.aj ⟨[.sl (J.aj+1+1) 0 3 (.ex 3)],none⟩) (σ3.aj+1) ⟨[.sl (J.aj+1+1) 0 3 (.ex 3)],some (1,137)⟩->(∃rv a,V.c (.sl (σ3.aj+1) 0 1 .opn)=.c rv/\iO (λb=>p b\/J.aj<=b/\b<σ3.aj+1+1) h' rv (al++[a])/\a.length=3/\∀t,t<3->H9 nc al (ix a t)/\(ix a t).length<=nc+1)/\Fr J ⟨h',σ3.aj+1+1⟩:=λh' e=>by subst e;have:=agree_end (rb:=σ3.aj+1) (n':=σ3.aj+1+1) (h':=hset (hset σ3.h σ3.aj ⟨[.sl (J.aj+1+1) 0 3 (.ex 3)],none⟩) (σ3.aj+1) ⟨[.sl (J.aj+1+1) 0 3 (.ex 3)],some (1,137)⟩) hW hT2 Ll hT hi2 jb (by rw[aA,h0];rfl) (λb9 h9=>by simp(disch:=omega) only[au]) jb jb (fr);rw[h0]at this;exact this
    rcases hA0 with rfl|⟨b,o,c,rfl⟩
    .simp(disch:=try exact jz)only[go_sem,W4,ay q1,hAk]
     exact hfin _ rfl
    .simp(disch:=try exact jz)only[go_sem,W4,ay q1,hAk]
     exact hfin _ rfl
   .obtain⟨b,o,c,rfl,-,hld⟩:=hT1.pos jb
    have hbl:=hW.cZ (hld 0 jb)
    obtain⟨kk,e1,e2,e3,e4,e5⟩:=Uz jb λi hi=>hF.ld hW (hld i hi)
    simp(disch:=try exact jz)only[go_sem,W4,ay q1,hAk,e1,e3,e4,e5,e2]
    refine agree_end hW hT2 Ll hT hi2 jb ?_ ?_ jb jb ?_
    .rw[aA,jC (e:=1) (G:=λi=>[T i]) (λ_=>rfl),jA]
     congr 2
     refine bC λj hj=>?_
     unfold je
     by_cases e:j=al.length
     .rw[ab e,ae jb]
     .rw[ae e,ab jb]
    .intro b9 h9
     simp(disch:=omega) only[au,fE]
    .exact fr
end Go.Proofs.Xe
