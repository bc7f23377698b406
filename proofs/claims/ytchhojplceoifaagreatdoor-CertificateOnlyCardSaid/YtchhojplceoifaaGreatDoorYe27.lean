import Derived.Test.YtchhojplceoifaaGreatDoorYe23
set_option linter.all false
set_option maxHeartbeats 8000000
namespace Go.Proofs.Xe
open Go.RowKit Go.Proofs.Ins
def RS(nc:Nat)(al:List iI)(x:AZ):Prop:=((x.k=-1/\x.b=true)\/∃i:Nat,i<nc/\x.k=(i:Int)/\aix al x.k)/\∃w:Nat,w<=16/\x.a=vY ((Int.ofNat w:Int):Rat)
def FH(nc:Nat)(al:List iI)(t:List AZ):Prop:=∀k,k<t.length->RS nc al (ix t k)
def FH.snoc{nc:Nat}{al:List iI}{t:List AZ}{x:AZ}(h:FH nc al t)(hx:RS nc al x):FH nc al (t++[x]):=λk hk=>by
 rw[aD,cj]at hk;by_cases e:k=t.length
 .rw[e,gZ];exact hx
 .rw[gY _ _ jb];exact h k jb
structure TI(σ σ':St)(tb i nc:Nat)(al:List iI)(ts:Nat->List AZ)(bs:Nat->Nat):Prop where
 b:σ'.h tb=some ⟨ones 3 (λt=>lC (ts t) (bs t)),none⟩
 f:KJ σ'.h 3 BU 5 126 ts bs (tb+1) σ'.aj
 g:∀t,t<3->FH nc al (ts t)
 l:∀t,t<3->(ts t).length<=i
 n:tb+1<=σ'.aj
 fr:Fr σ σ'
def ae9(ts:Nat->List AZ)(bs:Nat->Nat)(t nx:Nat)(x:AZ):(λj=>lC (aN ts t (ts t++[x]) j) (aN bs t nx j))=aN (λj=>lC (ts j) (bs j)) t (.sl nx 0 ((ts t).length+1) .opn):=by
 funext j;unfold aN;split
 .next e=>rw[jh kc,aD];rfl
 .rfl
def acV(l:List AZ):l.length*5<=(bV l.length (λk=>BU (ix l k))).length:=by rw[qU (e:=5) λ_=>rfl];exact jp
def Yb(l:List AZ):(bV l.length (λk=>BU (ix l k))).take (l.length*5)=bV l.length (λk=>BU (ix l k)):=Ag λ_=>rfl
section
variable {σ σ' : St} {tb i nc:Nat} {al:List iI} {ts:Nat→List AZ} {bs:Nat→Nat}
def TI.step(hT:TI σ σ' tb i nc al ts bs){σ3:St}(hf:Fr σ' σ3):TI σ σ3 tb (i+1) nc al ts bs:=by have hn:=hT.n;have hle:=hf.le;exact⟨by rw[hf.old _ jb];exact hT.b,hT.f.mono (λb _ hb=>hf.old b hb) hle,hT.g,λt ht=>by have:=hT.l t ht;omega,jb,hT.fr.trans hf⟩
def TI.push(hT:TI σ σ' tb i nc al ts bs){t nx n':Nat}{x:AZ}{h':Tr Bk}(ht:t<3)(hg:RS nc al x)(hb:h' tb=some ⟨ones 3 (aN (λj=>lC (ts j) (bs j)) t (.sl nx 0 ((ts t).length+1) .opn)),none⟩)
  (hx:h' nx=some ⟨bV (ts t).length (λk=>BU (ix (ts t) k))++BU x,some (5,126)⟩) (ho:∀b,tb+1<=b->b<σ'.aj->(0<(ts t).length->b≠bs t)->h' b=σ'.h b) (hn:σ'.aj<=nx) (hn':nx<n') (hf:Fr σ ⟨h',n'⟩):
  TI σ ⟨h',n'⟩ tb (i+1) nc al (aN ts t (ts t++[x])) (aN bs t nx):=by
 have hn0:=hT.n
 refine⟨?_,?_,λj hj=>?_,λj hj=>?_,by show tb+1<=n';omega,hf⟩
 .rw[ae9];exact hb
 .refine hT.f.push ht x rfl hx (λj hj e hp=>?_) jb hn hn'
  obtain⟨-,k2,k3⟩:=hT.f.blk j hj hp
  exact ho _ k2 k3 λhp2 e2=>e (hT.f.inj j t hj ht hp hp2 e2)
 .unfold aN
  split
  .next e=>exact(hT.g t ht).snoc hg
  .exact hT.g j hj
 .unfold aN
  split
  .next e=>rw[aD,cj];have:=hT.l t ht;omega
  .have:=hT.l j hj;omega
end
def aY.plt{σ:St}(hW:WF σ){p:Nat->Prop}{e n:Nat}{v:B}{G:Nat->List B}(hl:aY p σ.h e v n G):aY (λb=>p b/\b<σ.aj) σ.h e v n G:=by
 rcases hl with h|⟨b,o,c,h1,h2,h3⟩
 .exact .inl h
 .exact .inr ⟨b,o,c,h1,λh=>⟨h2 h,hW.dF (h3 0 h)⟩,h3⟩
def fC.plt{σ:St}(hW:WF σ){p:Nat->Prop}{v:B}{l:iI}(hl:fC p σ.h v l):fC (λb=>p b/\b<σ.aj) σ.h v l:=by obtain⟨T,k1,k2⟩:=hl;exact⟨T,k1.plt hW,λj hj=>(k2 j hj).plt hW⟩
def agree_end{σ σ':St}{tb i nc:Nat}{al:List iI}{ts:Nat->List AZ}{bs:Nat->Nat}(hW:WF σ){p:Nat->Prop}{T:Nat->B}(hT2:∀j,j<al.length->fC p σ.h (T j) (ix al j))(Y6:∀j,j<al.length->(T j).kn=true)(hT:TI σ σ' tb i nc al ts bs)(hi:i<=nc+1)(htb:σ.aj<=tb)
  {h':Tr Bk}{n' rb:Nat}(hr:h' rb=some ⟨bV (al.length+1) (λj=>[if j<al.length then T j else .sl tb 0 3 (.ex 3)]),some (1,129)⟩) (ho:∀b,b<σ'.aj->h' b=σ'.h b) (hrb:σ'.aj<=rb) (hn:rb<n') (hf:Fr σ ⟨h',n'⟩):
  (∃rv a,V.c (.sl rb 0 (al.length+1) .opn)=.c rv/\jq (λb=>p b\/σ.aj<=b/\b<n') h' rv (al++[a])/\a.length=3/\∀t,t<3->FH nc al (ix a t)/\(ix a t).length<=nc+1)/\Fr σ ⟨h',n'⟩:=by
 have hle:=hT.fr.le
 have hn1:=hT.n
 have h3:∀t,t<3->ix [ts 0,ts 1,ts 2] t=ts t:=λt ht=>by
  match t,ht with
  |0,_=>rfl
  |1,_=>rfl
  |2,_=>rfl
 refine⟨⟨_,[ts 0,ts 1,ts 2],rfl,⟨λj=>if j<al.length then T j else .sl tb 0 3 (.ex 3),?_,λj hj=>?_⟩,rfl,λt ht=>?_⟩,hf⟩
 .have:(al++[[ts 0,ts 1,ts 2]]).length=al.length+1:=by simp
  rw[this]
  exact bf _ hr rfl (.inr ⟨jb,hn⟩) (λ_=>rfl) jj λj hj=>by
   dsimp only;split
   .next e=>simp only[cW,eA,Y6 j e,eh]
   .rfl
 .have hj':j<al.length+1:=by simpa using hj
  dsimp only
  by_cases e:j<al.length
  .rw[ab e,gY _ _ e]
   refine((hT2 j e).plt hW).keep (λb hb=>?_) λb hb=>.inl hb.1
   rw[ho b jb,hT.fr.old b hb.2]
  .rw[ae e]
   obtain rfl:j=al.length:=jb
   rw[gZ]
   refine⟨λt=>lC (ts t) (bs t),?_,λt ht=>?_⟩
   .have hb:h' tb=some ⟨bV 3 (λt=>[lC (ts t) (bs t)]),none⟩:=by rw[ho tb jb];exact hT.b
    exact bf _ hb rfl (.inr ⟨htb,jb⟩) (λ_=>rfl) jj λj _=>by simp only[cW,eA,rM,eh]
   .have ht:t<3:=ht
    rw[h3 t ht]
    exact(hT.f.hlp (p:=λb=>tb+1<=b/\b<σ'.aj) (λb h1 h2=>⟨h1,h2⟩) (λ_=>rfl) jj (λ_=>rfl) ht).keep (λb hb=>ho b hb.2) λb hb=>.inr ⟨jb,jb⟩
 .rw[h3 t ht]
  exact⟨hT.g t ht,by have:=hT.l t ht;omega⟩
set_option maxRecDepth 10000 in
def anj{σ:St}(hW:WF σ){p:Nat->Prop}{x1 x2 x3 C A:B}(al:List iI)(hA:jq p σ.h A al)(hl:asi al)(nc:Nat)(hC:lenV (.c C)=some (.c (.int .i64 (.ofNat nc))))(hnc:nc<=1000)(h1:x1.kn=true)(h2:x2.kn=true)(h3:x3.kn=true)(h4:C.kn=true)
  (p0 p1 p2:Nat) (b0:p0<=65535) (b1:p1<=65535) (b2:p2<=65535):
  aC EN 39 [.agg [x1,x2,x3,C,A],.agg [.int .u16 (.ofNat p0),.int .u16 (.ofNat p1),.int .u16 (.ofNat p2)]] σ λr σ'=>(∃rv a,r=.c rv/\jq (λb=>p b\/σ.aj<=b/\b<σ'.aj) σ'.h rv (al++[a])/\a.length=3/\∀t,t<3->FH nc al (ix a t)/\(ix a t).length<=nc+1)/\Fr σ σ':=by
 refine aO (F5.o _ _) F5.h ?_
 unfold F5
 dsimp only
 have hAk:=hA.kn
 simp(disch:=try exact jz) only[go_sem,z3,hAk,hC,h4]
 refine bK.mono (Q:=λe tm σ'=>e=.exit 0/\∃ts bs,Tr.ah tm 2=.c (.ptr σ.aj 0)/\Tr.ah tm 3=.c (.ptr (σ.aj+1) 0)/\Tr.ah tm 5=.c (.sl (σ.aj+1+1) 0 3 (.ex 3))
  /\σ'.h σ.aj=some ⟨[x1,x2,x3,C,A],none⟩/\σ'.h (σ.aj+1)=some ⟨[.int .u16 (.ofNat p0),.int .u16 (.ofNat p1),.int .u16 (.ofNat p2)],none⟩/\TI σ σ' (σ.aj+1+1) nc nc al ts bs) (aF (λq tm σ'=>∃i ts bs,q=nc-i/\i<=nc/\Tr.ah tm 2=.c (.ptr σ.aj 0)/\Tr.ah tm 3=.c (.ptr (σ.aj+1) 0)/\Tr.ah tm 5=.c (.sl (σ.aj+1+1) 0 3 (.ex 3))/\Tr.ah tm 6=.c (.int .i64 (.ofNat p1))/\Tr.ah tm 17=.c (.int .i64 (.ofNat nc))/\Tr.ah tm 18=.c (.int .i64 (.ofNat i))
  /\σ'.h σ.aj=some ⟨[x1,x2,x3,C,A],none⟩/\σ'.h (σ.aj+1)=some ⟨[.int .u16 (.ofNat p0),.int .u16 (.ofNat p1),.int .u16 (.ofNat p2)],none⟩/\TI σ σ' (σ.aj+1+1) i nc al ts bs) nc ?_ ?_) ?_
 .refine⟨0,λ_=>[],λ_=>0,jb,jb,?_⟩
  simp(disch:=try exact jz) only[go_sem,z3,am]
  refine⟨?_,KJ.nil _ _ _ _ _ _ _ _,λt _ k hk=>by simp at hk,λt _=>cT 0,jp,?_⟩
  .rw[aA];rfl
  .exact fr
 .rintro q tm σ' ⟨i,ts,bs,rfl,hi,t2,t3,t5,t6,t17,nJ,q1,q2,hT⟩
  have hle:=hT.fr.le
  have hn:=hT.n
  have hr:=wJ p1 (2^min (2*i) 64) 9223372036854775807 jb
  simp(disch:=try exact jz) only[go_sem,z3,t2,t3,t5,t6,t17,nJ,aG]
  refine aH (λhlt=>?_) (λhlt=>?_)
  .simp(disch:=try exact jz) only[go_sem,z3,t2,t3,t5,t6,t17,nJ]
   have hx3:(p1/2^min (2*i) 64)&&&3<=3:=Nat.and_le_right
   generalize (p1/2^min (2*i) 64)&&&3=x at*
   refine WZ (λhx0=>?_) (λhx0=>?_)
   .simp(disch:=try exact jz) only[go_sem,z3,t2,t3,t5,t6,t17,nJ,hx0]
    exact⟨nc-(i+1),jb,i+1,ts,bs,rfl,jb,rfl,q1,q2,hT.step (Fr.refl hT.fr.wf)⟩
   .have RN:=hT.b
    simp(disch:=try exact jz) only[go_sem,z3,t2,t3,t5,t6,t17,nJ,hx0,ak q1,h1,h2,h3,h4,hAk]
    refine(asj hT.fr.wf al (hA.fr hW hT.fr) hl h1 h2 h3 h4 (.ofNat i)).mono ?_
    rintro _ σ3 ⟨⟨fb,rfl,hfb⟩,hf3⟩
    have q1':=hf3.get hT.fr.wf q1
    have q2':=hf3.get hT.fr.wf q2
    simp(disch:=try exact jz) only[go_sem,z3,t2,t3,t5,t6,t17,nJ]
    cases fb
    .simp(disch:=try exact jz) only[go_sem,z3,t2,t3,t5,t6,t17,nJ]
     exact⟨nc-(i+1),jb,i+1,ts,bs,rfl,jb,rfl,q1',q2',hT.step hf3⟩
    .have JD:=hT.step hf3
     have hf0:=hfb rfl
     have hF3:=JD.fr
     have RN:=JD.b
     have hn3:=JD.n
     have hle3:=JD.fr.le
     have hkn:=rM (ts (x-1)) (bs (x-1))
     have hpl:=acV (ts (x-1))
     have hpt:=Yb (ts (x-1))
     have hxl:=JD.l (x-1) jb
     have hr2:=wJ p2 (2^min i 64) 9223372036854775807 jb
     have hr3:=wJ p2 (2^min 6 16) 9223372036854775807 jb
     have hgood:∀(b:Bool) (w:Nat),w<=16->RS nc al ⟨.ofNat i,b,vY ((Int.ofNat w:Int):Rat)⟩:=λb w hw=>⟨.inr ⟨i,hlt,rfl,hf0⟩,w,hw,rfl⟩
     simp(disch:=try exact jz) only[go_sem,z3,t2,t3,t5,t6,t17,nJ,ak q2']
     refine aH (λhcap=>?_) (λhcap=>?_)
     .by_cases hz:(ts (x-1)).length=0
      .have he:lC (ts (x-1)) (bs (x-1))=.aX:=by unfold lC;rw[ab hz]
       simp(disch:=try exact jz) only[go_sem,z3,t2,t3,t5,t6,t17,nJ,ak q2',ak RN,RN,he]
       refine⟨nc-(i+1),jb,i+1,aN ts (x-1) (ts (x-1)++[⟨.ofNat i,true,vY ((Int.ofNat (p2/2^min 6 16%9):Int):Rat)⟩]),aN bs (x-1) (σ3.aj+1+1),rfl,jb,rfl,?_,?_,TI.push (i:=i) ⟨JD.b,JD.f,JD.g,λt ht=>?_,JD.n,JD.fr⟩ jb (hgood true (p2/2^min 6 16%9) jb) ?_ ?_ ?_ ?_ ?_ ?_⟩
       .exact q1'
       .exact q2'
       .exact hT.l t ht
       .rw[hz,aA]
       .rw[au _ _ _ _ jb,aA,hz];rfl
       .intro b h1 h2 h3
        simp(disch:=omega) only[au]
       .omega
       .omega
       .exact fr
      .have he:=jh (l:=ts (x-1)) jb (bs (x-1))
       obtain⟨k1,k2,k3⟩:=JD.f.blk (x-1) jb jb
       simp(disch:=try exact jz) only[go_sem,z3,t2,t3,t5,t6,t17,nJ,ak q2',ak RN,RN,he,k1,hpt]
       refine⟨nc-(i+1),jb,i+1,aN ts (x-1) (ts (x-1)++[⟨.ofNat i,true,vY ((Int.ofNat (p2/2^min 6 16%9):Int):Rat)⟩]),aN bs (x-1) (σ3.aj+1+1),rfl,jb,rfl,?_,?_,TI.push (i:=i) ⟨JD.b,JD.f,JD.g,λt ht=>?_,JD.n,JD.fr⟩ jb (hgood true (p2/2^min 6 16%9) jb) ?_ ?_ ?_ ?_ ?_ ?_⟩
       .exact q1'
       .exact q2'
       .exact hT.l t ht
       .rw[aA]
       .rw[au _ _ _ _ jb,aA];rfl
       .intro b h1 h2 h3
        have h3:=h3 jb
        simp(disch:=first|assumption|omega) only[au,iH]
       .omega
       .omega
       .exact fr
     .by_cases hz:(ts (x-1)).length=0
      .have he:lC (ts (x-1)) (bs (x-1))=.aX:=by unfold lC;rw[ab hz]
       simp(disch:=try exact jz) only[go_sem,z3,t2,t3,t5,t6,t17,nJ,ak q2',ak RN,RN,he]
       refine⟨nc-(i+1),jb,i+1,aN ts (x-1) (ts (x-1)++[⟨.ofNat i,false,vY ((Int.ofNat (0):Int):Rat)⟩]),aN bs (x-1) (σ3.aj+1+1),rfl,jb,rfl,?_,?_,TI.push (i:=i) ⟨JD.b,JD.f,JD.g,λt ht=>?_,JD.n,JD.fr⟩ jb (hgood false (0) jb) ?_ ?_ ?_ ?_ ?_ ?_⟩
       .exact q1'
       .exact q2'
       .exact hT.l t ht
       .rw[hz,aA]
       .rw[au _ _ _ _ jb,aA,hz];rfl
       .intro b h1 h2 h3
        simp(disch:=omega) only[au]
       .omega
       .omega
       .exact fr
      .have he:=jh (l:=ts (x-1)) jb (bs (x-1))
       obtain⟨k1,k2,k3⟩:=JD.f.blk (x-1) jb jb
       simp(disch:=try exact jz) only[go_sem,z3,t2,t3,t5,t6,t17,nJ,ak q2',ak RN,RN,he,k1,hpt]
       refine⟨nc-(i+1),jb,i+1,aN ts (x-1) (ts (x-1)++[⟨.ofNat i,false,vY ((Int.ofNat (0):Int):Rat)⟩]),aN bs (x-1) (σ3.aj+1+1),rfl,jb,rfl,?_,?_,TI.push (i:=i) ⟨JD.b,JD.f,JD.g,λt ht=>?_,JD.n,JD.fr⟩ jb (hgood false (0) jb) ?_ ?_ ?_ ?_ ?_ ?_⟩
       .exact q1'
       .exact q2'
       .exact hT.l t ht
       .rw[aA]
       .rw[au _ _ _ _ jb,aA];rfl
       .intro b h1 h2 h3
        have h3:=h3 jb
        simp(disch:=first|assumption|omega) only[au,iH]
       .omega
       .omega
       .exact fr
  .have:i=nc:=jb
   subst this
   simp(disch:=try exact jz) only[go_sem,z3,am]
   exact⟨ts,bs,t2,t3,t5,q1,q2,hT⟩
 .rintro _ tm σ' ⟨rfl,ts,bs,t2,t3,t5,q1,q2,hT⟩
  have hF:=hT.fr
  have hle:=hT.fr.le
  have hn:=hT.n
  have RN:=hT.b
  have hr0:=wJ p0 8 65535 b0
  have hr1:=wJ p0 32 65535 b0
  have hr2:=wJ p0 96 65535 b0
  show bK EN (.seq _ _) _ _ _
  refine acL (λtm σ3=>∃ts bs i2,i2<=nc+1/\Tr.ah tm 2=.c (.ptr σ.aj 0)/\Tr.ah tm 5=.c (.sl (σ.aj+1+1) 0 3 (.ex 3))/\σ3.h σ.aj=some ⟨[x1,x2,x3,C,A],none⟩/\TI σ σ3 (σ.aj+1+1) i2 nc al ts bs) ?_ ?_
  .simp(disch:=try exact jz) only[go_sem,z3,t2,t3,t5,ak q2]
   refine aH (λhcap=>?_) (λhcap=>?_)
   .generalize hx:p0/32%3=x at*
    have hx3:x<3:=jb
    have hkn:=rM (ts x) (bs x)
    have hpl:=acV (ts x)
    have hpt:=Yb (ts x)
    have hxl:=hT.l x hx3
    have hgood:RS nc al ⟨-1,true,vY ((Int.ofNat (p0/96%7):Int):Rat)⟩:=⟨.inl ⟨rfl,rfl⟩,_,jb,rfl⟩
    by_cases hz:(ts x).length=0
    .have he:lC (ts x) (bs x)=.aX:=by unfold lC;rw[ab hz]
     simp(disch:=try exact jz) only[go_sem,z3,t2,t3,t5,hx,ak q2,ak RN,RN,he]
     refine⟨aN ts x (ts x++[⟨-1,true,vY ((Int.ofNat (p0/96%7):Int):Rat)⟩]),aN bs x (σ'.aj+1),nc+1,jb,q1,TI.push hT hx3 hgood ?_ ?_ ?_ ?_ ?_ ?_⟩
     .rw[hz,aA]
     .rw[au _ _ _ _ jb,aA,hz];rfl
     .intro b h1 h2 h3
      simp(disch:=omega) only[au]
     .omega
     .omega
     .exact fr
    .have he:=jh (l:=ts x) jb (bs x)
     obtain⟨k1,k2,k3⟩:=hT.f.blk x hx3 jb
     simp(disch:=try exact jz) only[go_sem,z3,t2,t3,t5,hx,ak q2,ak RN,RN,he,k1,hpt]
     refine⟨aN ts x (ts x++[⟨-1,true,vY ((Int.ofNat (p0/96%7):Int):Rat)⟩]),aN bs x (σ'.aj+1),nc+1,jb,q1,TI.push hT hx3 hgood ?_ ?_ ?_ ?_ ?_ ?_⟩
     .rw[aA]
     .rw[au _ _ _ _ jb,aA];rfl
     .intro b h1 h2 h3
      have h3:=h3 jb
      simp(disch:=first|assumption|omega) only[au,iH]
     .omega
     .omega
     .exact fr
   .simp(disch:=try exact jz) only[go_sem,z3,am]
    exact⟨ts,bs,nc,jb,t2,t5,q1,hT⟩
  .rintro tm σ3 ⟨ts,bs,i2,hi2,t2,t5,q1,hT⟩
   have hF:=hT.fr
   have hle:=hT.fr.le
   have hn:=hT.n
   obtain⟨T,hT1,hT2⟩:=hA
   have Y6:∀j,j<al.length->(T j).kn=true:=λj hj=>by obtain⟨b,o,c,e,-,hld⟩:=hT1.pos jb;exact(vT (hld j hj)).2
   have hal:=hl.1
   have hAk:=hT1.kn
   by_cases h0:al.length=0
   .have hA0:A=.aX\/∃b o c,A=.sl b o 0 c:=by
     rcases hT1 with⟨-,e⟩|⟨b,o,c,e,-⟩
     .exact .inl e
     .exact .inr ⟨b,o,c,by rw[e,h0]⟩
    have hfin:∀h':Tr Bk,h'=hset (hset σ3.h σ3.aj ⟨[.sl (σ.aj+1+1) 0 3 (.ex 3)],none⟩) (σ3.aj+1) ⟨[.sl (σ.aj+1+1) 0 3 (.ex 3)],some (1,129)⟩->(∃rv a,V.c (.sl (σ3.aj+1) 0 1 .opn)=.c rv/\jq (λb=>p b\/σ.aj<=b/\b<σ3.aj+1+1) h' rv (al++[a])/\a.length=3/\∀t,t<3->FH nc al (ix a t)/\(ix a t).length<=nc+1)/\Fr σ ⟨h',σ3.aj+1+1⟩:=λh' e=>by subst e;have:=agree_end (rb:=σ3.aj+1) (n':=σ3.aj+1+1) (h':=hset (hset σ3.h σ3.aj ⟨[.sl (σ.aj+1+1) 0 3 (.ex 3)],none⟩) (σ3.aj+1) ⟨[.sl (σ.aj+1+1) 0 3 (.ex 3)],some (1,129)⟩) hW hT2 Y6 hT hi2 jb (by rw[aA,h0];rfl) (λb9 h9=>by simp(disch:=omega) only[au]) jb jb (fr);rw[h0]at this;exact this
    rcases hA0 with rfl|⟨b,o,c,rfl⟩
    .simp(disch:=try exact jz) only[go_sem,z3,t2,t5,ak q1,h1,h2,h3,h4,hAk]
     exact hfin _ rfl
    .simp(disch:=try exact jz) only[go_sem,z3,t2,t5,ak q1,h1,h2,h3,h4,hAk]
     exact hfin _ rfl
   .obtain⟨b,o,c,rfl,-,hld⟩:=hT1.pos jb
    have hbl:=hW.dF (hld 0 jb)
    obtain⟨kk,e1,e2,e3,e4,e5⟩:=Q8 jb λi hi=>hF.ld hW (hld i hi)
    simp(disch:=try exact jz) only[go_sem,z3,t2,t5,ak q1,h1,h2,h3,h4,hAk,e1,e3,e4,e5,e2]
    refine agree_end hW hT2 Y6 hT hi2 jb ?_ ?_ jb jb ?_
    .rw[aA,Ag (e:=1) (G:=λi=>[T i]) (λ_=>rfl),kM]
     congr 2
     refine dB λj hj=>?_
     unfold jk
     by_cases e:j=al.length
     .rw[ab e,ae jb]
     .rw[ae e,ab jb]
    .intro b9 h9
     simp(disch:=omega) only[au,iH]
    .exact fr
end Go.Proofs.Xe
