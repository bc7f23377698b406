import Derived.Test.YthkggcakedkboaaGreatDoorYc42
set_option linter.all false
set_option maxRecDepth 100000
set_option maxHeartbeats 8000000
noncomputable section
namespace Go.Proofs.Xe
open Go.RowKit Go.Proofs.Ins
open Classical in
def owS(el:List xU)(dl:List tX)(d0 i:Nat)(s:Nat×Int×List Ins.Lg)(j:Nat):Nat×Int×List Ins.Lg:=
 if¬Xv dl (.ofNat i) (.ofNat j)\/4<=s.2.2.length then s else if d0/2^min (s.1%16) 64&&&1=1/\(s.2.2.length=0\/(ix (ix el i).c j).h=s.2.1)then(s.1+1,(ix (ix el i).c j).h,s.2.2++[⟨.ofNat i,.ofNat j⟩])else(s.1+1,s.2.1,s.2.2)
def owR(el:List xU)(dl:List tX)(d0 i:Nat):Nat->Nat×Int×List Ins.Lg->Nat×Int×List Ins.Lg
 |0,s=>s
 |j+1,s=>owS el dl d0 i (owR el dl d0 i j s) j
def owE(el:List xU)(dl:List tX)(d0:Nat):Nat->Nat×Int×List Ins.Lg
 |0=>(0,0,[])
 |i+1=>owR el dl d0 i (ix el i).c.length (owE el dl d0 i)
def swI(l:List Ins.Lg):Nat->List Ins.Lg
 |0=>l
 |i+1=>((swI l i).set i (ix (swI l i) (l.length-1-i))).set (l.length-1-i) (ix (swI l i) i)
def owF(el:List xU)(dl:List tX)(d0 d1:Nat):List Ins.Lg:=if d1%2=1 then swI (owE el dl d0 el.length).2.2 ((owE el dl d0 el.length).2.2.length/2)else(owE el dl d0 el.length).2.2
section
variable {el:List xU} {dl:List tX} {d0 i j k:Nat} {hv v:Int} {l:List Ins.Lg}
def ow1(h:¬Xv dl (.ofNat i) (.ofNat j)\/4<=l.length):owS el dl d0 i (k,hv,l) j=(k,hv,l):=ab h
def ow2(h:Xv dl (.ofNat i) (.ofNat j))(h4:¬4<=l.length)(hw:d0/2^min (k%16) 64&&&1=1)(hh:l.length=0\/(ix (ix el i).c j).h=hv)(e:(ix (ix el i).c j).h=v):owS el dl d0 i (k,hv,l) j=(k+1,v,l++[⟨.ofNat i,.ofNat j⟩]):=by rw[<-e];exact(ae λh9=>h9.elim (λh9=>h9 h) h4).trans (ab ⟨hw,hh⟩)
def ow3(h:Xv dl (.ofNat i) (.ofNat j))(h4:¬4<=l.length)(_:d0/2^min (k%16) 64&&&1=1)(hh:¬(l.length=0\/(ix (ix el i).c j).h=hv)):owS el dl d0 i (k,hv,l) j=(k+1,hv,l):=
 (ae λh9=>h9.elim (λh9=>h9 h) h4).trans (ae λh9=>hh h9.2)
def ow4(h:Xv dl (.ofNat i) (.ofNat j))(h4:¬4<=l.length)(hw:¬d0/2^min (k%16) 64&&&1=1):owS el dl d0 i (k,hv,l) j=(k+1,hv,l):=
 (ae λh9=>h9.elim (λh9=>h9 h) h4).trans (ae λh9=>hw h9.1)
end
def ajQ{σ σ':St}{ev dv:B}{d0 d1 d2:Nat}{w:Rat}{l:List Ins.Lg}{bl:Nat}{dl:List tX}(hW:WF σ){p:Nat->Prop}{T:Nat->B}(hT2:∀j,j<dl.length->JE p σ.h (T j) (ix dl j).l)(hT1:aZ p σ.h 4 dv dl.length (λi=>[.bool (ix dl i).w.n,.str (ix dl i).w.s,.str (ix dl i).w.d,T i]))(hL:LI σ σ' ev dv d0 d1 d2 w l bl){el:List xU}(hG:LGf el dl l)
  {h':Tr Bk}{n' rb:Nat}(hr:h' rb=some ⟨bD (dl.length+1) (λj=>if j<dl.length then [.bool (ix dl j).w.n,.str (ix dl j).w.s,.str (ix dl j).w.d,T j]else [.bool (rn w),.str (rs w),.str (rd w),kN l bl]),some (4,66)⟩) (ho:∀b,b<σ'.aj->h' b=σ'.h b) (hrb:σ'.aj<=rb) (hn:rb<n') (hf:Fr σ ⟨h',n'⟩):
  (∃rv d,d=⟨oK w,l⟩/\V.c (.sl rb 0 (dl.length+1) .opn)=.c rv/\kD (λb=>p b\/σ.aj<=b/\b<n') h' rv (dl++[d])/\d.l.length<=4/\d.w=oK w/\LGf el dl d.l)/\Fr σ ⟨h',n'⟩:=by
 have hle:=hL.fr.le
 have hn1:=hL.nx
 refine⟨⟨_,⟨oK w,l⟩,rfl,rfl,⟨λj=>if j<dl.length then T j else kN l bl,?_,λj hj=>?_⟩,hL.n,rfl,hG⟩,hf⟩
 .have:(dl++[(⟨oK w,l⟩:tX)]).length=dl.length+1:=by simp
  rw[this]
  have Yl:∀j,j<dl.length->(T j).kn=true:=λj hj=>(hT2 j hj).kn
  refine(bf (p:=λb=>p b\/σ.aj<=b/\b<n') _ hr rfl (.inr ⟨jb,hn⟩) (λj=>?_) jj λj hj=>?_).congr λj hj=>?_
  .split<;>rfl
  .split
   .next e=>simp only[cL,eg,Yl j e,Aa,Fp,du]
   .simp only[cL,eg,qN,Aa,Fp,du]
  .dsimp only
   split
   .next e=>rw[gI _ _ e]
   .next e=>
    obtain rfl:j=dl.length:=jb
    rw[gJ];rfl
 .have hj':j<dl.length+1:=by simpa using hj
  dsimp only
  by_cases e:j<dl.length
  .rw[ab e,gI _ _ e]
   refine(aZ.plt hW (hT2 j e)).keep (λb hb=>?_) λb hb=>.inl hb.1
   rw[ho b jb,hL.fr.old b hb.2]
  .rw[ae e]
   obtain rfl:j=dl.length:=jb
   rw[gJ]
   by_cases h0:l.length=0
   .exact .inl ⟨h0,by unfold kN;rw[ab h0]⟩
   .obtain⟨k1,k2,k3⟩:=hL.lb jb
    rw[iT jb]
    exact bf (p:=λb=>p b\/σ.aj<=b/\b<n') _ (by rw[ho _ k3];exact k1) rfl (.inr ⟨jb,jb⟩) (λ_=>rfl) jj λ_ _=>rfl
def avY{σ:St}(hW:WF σ){p p':Nat->Prop}{ev dv:B}(el:List xU)(dl:List tX)(hE:Ce p' σ.h ev el)(hD:kD p σ.h dv dl)(hl:auM dl)(hel:el.length<=1000)(hcl:∀i,i<el.length->(ix el i).c.length<=1000)
  (d0 d1 d2:Nat) (b0:d0<=65535) (b1:d1<=65535) (b2:d2<=65535):
  aC EN 29 [.agg [ev,dv],.agg [.int .u16 (.ofNat d0),.int .u16 (.ofNat d1),.int .u16 (.ofNat d2)]] σ λr σ'=>(∃rv d,d=⟨oK (amt d2),owF el dl d0 d1⟩/\r=.c rv/\kD (λb=>p b\/σ.aj<=b/\b<σ'.aj) σ'.h rv (dl++[d])/\d.l.length<=4/\d.w=oK (amt d2)/\LGf el dl d.l)/\Fr σ σ':=by
 refine aQ (Np.o _ _) Np.h ?_
 unfold Np
 dsimp only
 have hek:=hE.kn
 have hdk:=hD.kn
 have hlenE:=hE.len
 simp(disch:=try exact jz) only[go_sem,z3,hek,hdk,hlenE]
 refine bJ.mono (Q:=λe tm σ'=>e=.exit 0/\∃l bl,Tr.ah tm 2=.c (.ptr σ.aj 0)/\Tr.ah tm 3=.c (.ptr (σ.aj+1) 0)/\Tr.ah tm 5=.c (.ptr (σ.aj+1+1) 0)/\LGf el dl l/\LI σ σ' ev dv d0 d1 d2 (amt d2) l bl/\l=(owE el dl d0 el.length).2.2)
  (aF (λq tm σ'=>∃i k hv l bl,q=el.length-i/\i<=el.length/\k<=i*1000/\Tr.ah tm 2=.c (.ptr σ.aj 0)/\Tr.ah tm 3=.c (.ptr (σ.aj+1) 0)/\Tr.ah tm 5=.c (.ptr (σ.aj+1+1) 0)/\Tr.ah tm 6=.c (.int .i64 (.ofNat k))/\Tr.ah tm 7=.c (.int .i64 hv)/\Tr.ah tm 20=.c (.int .i64 (.ofNat el.length))/\Tr.ah tm 21=.c (.int .i64 (.ofNat i))
   /\Uy el dl i 0 hv l/\LI σ σ' ev dv d0 d1 d2 (amt d2) l bl/\(k,hv,l)=owE el dl d0 i) el.length ?_ ?_) ?_
 .refine⟨0,0,0,[],0,jb,jb,jb,?_⟩
  simp(disch:=try exact jz) only[go_sem,z3,am]
  refine⟨rfl,Uy.nil,⟨?_,?_,?_,λh=>by simp at h,bp _,jp,?_⟩,rfl⟩
  .simp(disch:=omega) only[au,aA]
  .simp(disch:=omega) only[au,aA]
  .rw[aA];rfl
  .exact fr
 .rintro q tm σ' ⟨i,k,hv,l,bl,rfl,hi,hk,t2,t3,t5,t6,t7,t20,t21,hG,hL,hs⟩
  simp(disch:=try exact jz) only[go_sem,z3,t2,t3,t5,t6,t7,t20,t21,aG]
  refine aH (λhlt=>?_) (λhlt=>?_)
  .obtain⟨b,o,c,rfl,C,A,aec,uf,hC,-⟩:=hE.at hlt
   have uf:=hL.fr.ld hW uf
   have ay1:=hcl i hlt
   generalize hei:(ix el i).c=cl at*
   have Xq:=hC.len
   have ay2:=hC.kn
   have q1:=hL.q1
   have q2:=hL.q2
   simp(disch:=try exact jz) only[go_sem,z3,t2,t3,t5,t6,t7,t20,t21,ak q1,hek,hdk,uf,Xq]
   refine aF (λq tm σ3=>∃j k hv l bl,q=cl.length-j/\j<=cl.length/\k<=i*1000+j/\Tr.ah tm 2=.c (.ptr σ.aj 0)/\Tr.ah tm 3=.c (.ptr (σ.aj+1) 0)/\Tr.ah tm 5=.c (.ptr (σ.aj+1+1) 0)/\Tr.ah tm 6=.c (.int .i64 (.ofNat k))/\Tr.ah tm 7=.c (.int .i64 hv)/\Tr.ah tm 8=.c (.int .i64 (.ofNat i))/\Tr.ah tm 20=.c (.int .i64 (.ofNat el.length))/\Tr.ah tm 21=.c (.int .i64 (.ofNat i))
    /\Tr.ah tm 29=.c C/\Tr.ah tm 30=.c (.int .i64 (.ofNat cl.length))/\Tr.ah tm 31=.c (.int .i64 (.ofNat j))/\Uy el dl i j hv l/\LI σ σ3 (.sl b o el.length c) dv d0 d1 d2 (amt d2) l bl/\(k,hv,l)=owR el dl d0 i j (owE el dl d0 i)) cl.length ?_ ?_
   .refine⟨0,k,hv,l,bl,jb,jb,jb,?_⟩
    simp(disch:=try exact jz) only[go_sem,z3,t2,t3,t5,t6,t7,t20,t21,am]
    exact⟨hG,hL,hs⟩
   .rintro q tm3 σ3 ⟨j,k3,hv3,l3,bl3,rfl,hj,hk3,t2,t3,t5,t6,t7,t8,t20,t21,t29,t30,t31,hG3,hL3,hs3⟩
    have hst:owR el dl d0 i (j+1) (owE el dl d0 i)=owS el dl d0 i (k3,hv3,l3) j:=by rw[hs3];rfl
    simp(disch:=try exact jz) only[go_sem,z3,t2,t3,t5,t6,t7,t8,t20,t21,t29,t30,t31,aG]
    refine aH (λhlt3=>?_) (λhlt3=>?_)
    .obtain⟨b5,o5,c5,e5,-,bV⟩:=hC.pos jb
     have bV:=hL3.fr.ld hW (bV j hlt3)
     unfold c5B at bV
     have q1:=hL3.q1
     have q2:=hL3.q2
     have hn3:=hL3.nx
     have hle3:=hL3.fr.le
     rw[e5]at t29
     simp(disch:=try exact jz) only[go_sem,z3,t2,t3,t5,t6,t7,t8,t20,t21,t29,t30,t31,bV,ak q1,hek,hdk]
     refine aC.st (Fr σ3) (by have hF:=Fr.refl hL3.fr.wf;exact fr) λhF3=>?_
     refine(anu hF3.wf dl ((hD.fr hW hL3.fr).fr hL3.fr.wf hF3) hl hek (.ofNat i) (.ofNat j)).mono ?_
     rintro _ σ4 ⟨⟨fb,rfl,hNT⟩,hf4⟩
     have oW:=hF3.trans hf4
     have hL4:=hL3.step oW
     have xu:=oW.le
     have hn4:=hL4.nx
     have b4:=hL4.b
     have q2:=hL4.q2
     have hll:=hL4.n
     have acJ:=H9 l3 bl3
     have Yh:=qN l3 bl3
     have htb:σ4.h σ3.aj=some ⟨[.int .i64 (ix cl j).h,.int .i64 (ix cl j).r,.bool (ix cl j).a.n,.str (ix cl j).a.s,.str (ix cl j).a.d],none⟩:=hf4.get hF3.wf (aA _ _ _)
     have hr0:=xR d0 (2^min (k3%16) 64) 9223372036854775807 jb
     have hk5:k3<=2000000:=by have:=bo 1000 (show i<=1000 by omega);omega
     have ay3:k3%16<16:=cY _ jj
     cases fb
     .simp(disch:=try exact jz) only[go_sem,z3,t2,t3,t5,t6,t7,t8,t20,t21,t30,t31,ak b4,acJ,Yh]
      refine aH (λhl4=>?_) (λhl4=>?_)
      .simp(disch:=try exact jz) only[go_sem,z3,t2,t3,t5,t6,t7,t8,t20,t21,t30,t31]
       exact⟨cl.length-(j+1),jb,j+1,k3,hv3,l3,bl3,rfl,jb,jb,rfl,rfl,by rw[e5];exact t29,rfl,hG3.next,hL4,by rw[hst];exact(ow1 (.inr (by have h9:((4:Nat):Int)<=(l3.length:Int):=hl4;omega))).symm⟩
      .simp(disch:=try exact jz) only[go_sem,z3,t2,t3,t5,t6,t7,t8,t20,t21,t30,t31,ak q2]
       have ay4:=hL4.fr
       have hl5:l3.length<=3:=by have h9:¬((4:Nat):Int)<=(l3.length:Int):=hl4;omega
       have ayd:σ3.aj<=σ4.aj:=oW.le
       refine aa7 (λhw=>?_) (λhw=>?_)
       .by_cases hz:l3.length=0
        .have he:kN l3 bl3=.aW:=by unfold kN;rw[ab hz]
         simp(disch:=try exact jz) only[go_sem,z3,t2,t3,t5,t6,t7,t8,t20,t21,t30,t31,hw,ak b4,b4,he,ak htb]
         refine⟨cl.length-(j+1),jb,j+1,k3+1,_,l3++[⟨.ofNat i,.ofNat j⟩],_,rfl,jb,jb,rfl,rfl,by rw[e5];exact t29,rfl,hG3.push hlt hei hlt3 (hNT.mp rfl) (.inl (fa hz)) rfl,LI.push (nx:=σ4.aj+1) hL4 jb ?_ ?_ ?_ ?_ ?_ ?_,by rw[hst];exact(ow2 (hNT.mp rfl) jb hw (.inl hz) (by rw[hei])).symm⟩
         .rw[aA,hz]
         .rw[au _ _ _ _ jb,aA,hz];rfl
         .intro b9 h9;simp(disch:=omega) only[au]
         .omega
         .omega
         .exact fr
        .have he:=iT (l:=l3) jb bl3
         obtain⟨k1,k2,k9⟩:=hL4.lb jb
         have hpl:=aro l3
         have hpt:=amy l3
         have hz2:¬(0=l3.length):=jb
         simp(disch:=try exact jz) only[go_sem,z3,t2,t3,t5,t6,t7,t8,t20,t21,t30,t31,hw,ak b4,b4,he,ak htb,hz,k1,hpt]
         refine aH (λhh=>?_) (λhh=>?_)
         .simp(disch:=try exact jz) only[go_sem,z3,t2,t3,t5,t6,t7,t8,t20,t21,t30,t31,hw,ak b4,b4,he,ak htb,hz,k1,hpt]
          refine⟨cl.length-(j+1),jb,j+1,k3+1,_,l3++[⟨.ofNat i,.ofNat j⟩],_,rfl,jb,jb,rfl,rfl,by rw[e5];exact t29,rfl,hG3.push hlt hei hlt3 (hNT.mp rfl) (.inr (by first|exact hh|exact hh.symm)) rfl,LI.push (nx:=σ4.aj+1) hL4 jb ?_ ?_ ?_ ?_ ?_ ?_,by rw[hst];exact(ow2 (hNT.mp rfl) jb hw (.inr (by rw[hei];exact hh)) (by rw[hei])).symm⟩
          .rw[aA]
          .rw[au _ _ _ _ jb,aA];rfl
          .intro b9 h9;simp(disch:=omega) only[au,iq]
          .omega
          .omega
          .exact fr
         .simp(disch:=try exact jz) only[go_sem,z3,t2,t3,t5,t6,t7,t8,t20,t21,t30,t31,hw]
          exact⟨cl.length-(j+1),jb,j+1,k3+1,hv3,l3,bl3,rfl,jb,jb,rfl,rfl,by rw[e5];exact t29,rfl,hG3.next,hL4,by rw[hst];exact(ow3 (hNT.mp rfl) jb hw (λh=>h.elim hz λh=>hh (by rw[hei]at h;exact h))).symm⟩
       .simp(disch:=try exact jz) only[go_sem,z3,t2,t3,t5,t6,t7,t8,t20,t21,t30,t31,hw]
        exact⟨cl.length-(j+1),jb,j+1,k3+1,hv3,l3,bl3,rfl,jb,jb,rfl,rfl,by rw[e5];exact t29,rfl,hG3.next,hL4,by rw[hst];exact(ow4 (hNT.mp rfl) jb hw).symm⟩
     .simp(disch:=try exact jz) only[go_sem,z3,t2,t3,t5,t6,t7,t8,t20,t21,t30,t31]
      exact⟨cl.length-(j+1),jb,j+1,k3,hv3,l3,bl3,rfl,jb,jb,rfl,rfl,by rw[e5];exact t29,rfl,hG3.next,hL4,by rw[hst];exact(ow1 (.inl λh=>by have h9:=hNT.mpr h;cases h9)).symm⟩
    .have:j=cl.length:=jb
     subst this
     simp(disch:=try exact jz) only[go_sem,z3,t2,t3,t5,t6,t7,t8,t20,t21,t29,t30,t31]
     exact⟨el.length-(i+1),jb,i+1,k3,hv3,l3,bl3,rfl,jb,jb,rfl,rfl,rfl,hG3.row,hL3,by rw[hs3,<-hei];rfl⟩
  .have hie:i=el.length:=jb
   simp(disch:=try exact jz) only[go_sem,z3,am]
   exact⟨l,bl,t2,t3,t5,⟨hv,hie▸hG⟩,hL,by rw[<-hie,<-hs]⟩
 .rintro _ tm σ' ⟨rfl,l,bl,t2,t3,t5,⟨hvf,hG⟩,hL,hs⟩
  show bJ EN (.seq _ _) _ _ _
  refine abV (λtm σ3=>∃l bl,Tr.ah tm 2=.c (.ptr σ.aj 0)/\Tr.ah tm 5=.c (.ptr (σ.aj+1+1) 0)/\LGf el dl l/\LI σ σ3 ev dv d0 d1 d2 (amt d2) l bl/\l=owF el dl d0 d1) ?_ ?_
  .have q2:=hL.q2
   have hF:=hL.fr
   have b5:=hL.b
   have hn:=hL.n
   have acJ:=H9 l bl
   have Yh:=qN l bl
   simp(disch:=try exact jz) only[go_sem,z3,t2,t3,t5,ak q2]
   refine aH (λhr=>?_) (λhr=>?_)
   .by_cases hz:l.length=0
    .simp(disch:=try exact jz) only[go_sem,z3,t2,t3,t5,ak b5,acJ,Yh,hz,auN]
     refine aF (λq tm σ3=>q=0/\σ3=σ'/\Tr.ah tm 2=.c (.ptr σ.aj 0)/\Tr.ah tm 5=.c (.ptr (σ.aj+1+1) 0)/\Tr.ah tm 12=.c (.int .i64 (.ofNat 0))/\Tr.ah tm 13=.c (.int .i64 (.negSucc 0))) 0 ?_ ?_
     .simp(disch:=try exact jz) only[go_sem,z3,am]
      exact⟨t2,t5⟩
     .rintro q tm σ3 ⟨rfl,rfl,t2,t5,t12,t13⟩
      simp(disch:=try exact jz) only[go_sem,z3,t2,t5,t12,t13,awP,am]
      exact⟨l,bl,⟨hvf,hG⟩,hL,by unfold owF;rw[ab hr,<-hs,hz];rfl⟩
    .have h11:1<=l.length:=jb
     simp(disch:=try exact jz) only[go_sem,z3,t2,t3,t5,ak b5,acJ,Yh]
     refine aF (λq tm σ3=>∃i j l3,q=l.length-i/\i<=l.length/\j<l.length/\l3.length=l.length/\Tr.ah tm 2=.c (.ptr σ.aj 0)/\Tr.ah tm 5=.c (.ptr (σ.aj+1+1) 0)/\Tr.ah tm 12=.c (.int .i64 (.ofNat i))/\Tr.ah tm 13=.c (.int .i64 (.ofNat j))/\Uy el dl el.length 0 hvf l3/\LI σ σ3 ev dv d0 d1 d2 (amt d2) l3 bl/\j=l.length-1-i/\l3=swI l i/\2*i<=l.length) l.length ?_ ?_
     .refine⟨0,l.length-1,l,jb,jb,jb,rfl,?_⟩
      simp(disch:=try exact jz) only[go_sem,z3,t2,t5,am]
      exact⟨hG,hL,rfl,rfl,jb⟩
     .rintro q tm σ3 ⟨i,j,l3,rfl,hi,hj,hl3,t2,t5,t12,t13,hG3,hL3,hj9,hl9,h29⟩
      simp(disch:=try exact jz) only[go_sem,z3,t2,t5,t12,t13,aG]
      refine aH (λhij=>?_) (λhij=>?_)
      .have b5:=hL3.b
       have he:=iT (l:=l3) jb bl
       rw[he]at b5
       obtain⟨k1,k2,k9⟩:=hL3.lb jb
       have hn3:=hL3.nx
       have hF3:=hL3.fr
       have hle:=hF3.le
       rw[hl3]at b5 k1
       have r1:=aoq (n:=l.length) (i:=i) l3 jb
       have r2:=aoq (n:=l.length) (i:=j) l3 hj
       have w1:=aop (n:=l.length) (i:=i) l3 hl3 (ix l3 j) jb
       have w2:=aop (n:=l.length) (i:=j) (l3.set i (ix l3 j)) (by simp[hl3]) (ix l3 i) hj
       simp(disch:=try exact jz) only[go_sem,z3,t2,t5,t12,t13,ak b5,ak k1,aI k1,r1,r2,w1,w2]
       refine⟨l.length-(i+1),jb,i+1,j-1,(l3.set i (ix l3 j)).set j (ix l3 i),rfl,jb,jb,by simp[hl3],rfl,rfl,hG3.perm (swap_perm jb jb),hL3.set jb kc ?_ ?_ ?_,jb,by rw[hl9,hj9];rfl,jb⟩
       .rw[aA,hl3]
       .intro b9 h9
        rw[au _ _ _ _ h9,au _ _ _ _ h9]
       .exact fr
      .simp(disch:=try exact jz) only[go_sem,z3,t2,t5,t12,t13,am]
       exact⟨l3,bl,⟨hvf,hG3⟩,hL3,by unfold owF;rw[ab hr,<-hs,hl9,show i=l.length/2 by omega]⟩
   .simp(disch:=try exact jz) only[go_sem,z3,am]
    exact⟨l,bl,t2,t5,⟨hvf,hG⟩,hL,by unfold owF;rw[ae hr];exact hs⟩
  .rintro tm σ3 ⟨l,bl,t2,t5,hG,hL,hs2⟩
   have hF:=hL.fr
   have hle:=hL.fr.le
   have hn:=hL.nx
   have b5:=hL.b
   have q1:=hL.q1
   have Yh:=qN l bl
   obtain⟨T,hT1,hT2⟩:=hD
   have hdl:=hl.1
   have hfin:=λ(h':Tr Bk) (n' rb:Nat)=>ajQ (h':=h') (n':=n') (rb:=rb) hW hT2 hT1 hL hG
   by_cases h0:dl.length=0
   .have hA0:dv=.aW\/∃b o c,dv=.sl b o 0 c:=by
     rcases hT1 with⟨-,e⟩|⟨b,o,c,e,-⟩
     .exact .inl e
     .exact .inr ⟨b,o,c,by rw[e,h0]⟩
    have hend:∀h':Tr Bk,h'=hset (hset σ3.h σ3.aj ⟨[.bool (rn (amt d2)),.str (rs (amt d2)),.str (rd (amt d2)),kN l bl],none⟩) (σ3.aj+1) ⟨[.bool (rn (amt d2)),.str (rs (amt d2)),.str (rd (amt d2)),kN l bl],some (4,66)⟩->(∃rv d,d=⟨oK (amt d2),owF el dl d0 d1⟩/\V.c (.sl (σ3.aj+1) 0 1 .opn)=.c rv/\kD (λb=>p b\/σ.aj<=b/\b<σ3.aj+1+1) h' rv (dl++[d])/\d.l.length<=4/\d.w=oK (amt d2)/\LGf el dl d.l)/\Fr σ ⟨h',σ3.aj+1+1⟩:=λh' e=>by subst e;have:=hfin (hset (hset σ3.h σ3.aj ⟨[.bool (rn (amt d2)),.str (rs (amt d2)),.str (rd (amt d2)),kN l bl],none⟩) (σ3.aj+1) ⟨[.bool (rn (amt d2)),.str (rs (amt d2)),.str (rd (amt d2)),kN l bl],some (4,66)⟩) (σ3.aj+1+1) (σ3.aj+1) (by rw[aA,h0];rfl) (λb9 h9=>by simp(disch:=omega) only[au]) jb jb (fr);rw[h0]at this;exact this.imp (λ⟨rv,d,e,h⟩=>⟨rv,d,by rw[e,hs2],h⟩) id
    rcases hA0 with rfl|⟨b,o,c,rfl⟩
    .simp(disch:=try exact jz) only[go_sem,z3,t2,t5,ak q1,ak b5,hek,Yh]
     exact hend _ rfl
    .simp(disch:=try exact jz) only[go_sem,z3,t2,t5,ak q1,ak b5,hek,Yh]
     exact hend _ rfl
   .obtain⟨b,o,c,rfl,-,hld⟩:=hT1.pos jb
    have hbl:=hW.dF (hld 0 jb)
    obtain⟨kk,e1,e2,e3,e4,e5⟩:=Qo jb λi hi=>hF.ld hW (hld i hi)
    have hct:=zk (e:=4) (n:=dl.length) (G:=λi=>[B.bool (ix dl i).w.n,.str (ix dl i).w.s,.str (ix dl i).w.d,T i]) λ_=>rfl
    have hcn:dl.length*4<=(bD dl.length λi=>[B.bool (ix dl i).w.n,.str (ix dl i).w.s,.str (ix dl i).w.d,T i]).length:=by rw[e4];exact jp
    simp(disch:=try exact jz) only[go_sem,z3,t2,t5,ak q1,ak b5,hek,Yh,e1,e3,e4,e5,e2,hct]
    refine And.imp (λ⟨rv,d,e,h⟩=>⟨rv,d,by rw[e,hs2],h⟩) id (hfin _ _ _ ?_ ?_ jb jb ?_)
    .rw[aA,lV]
     congr 2
     refine bP λj hj=>?_
     unfold iZ
     by_cases e:j=dl.length
     .rw[ab e,ae jb]
     .rw[ae e,ab jb]
    .intro b9 h9
     simp(disch:=omega) only[au,iq]
    .exact fr
def gmF(M:Nat->Nat)(nc:Nat)(i:Nat):Rat:=if i<nc then amt (M i)else 0
def Lj{M:Nat->Nat}{nc i:Nat}{m:Nat->Rat}{q:Rat}(h:∀j,j<i->m j=gmF M nc j)(e:q=gmF M nc i):∀j,j<i+1->aK m i q j=gmF M nc j:=λj hj=>by
 by_cases e9:j=i
 .rw[e9,aN,e]
 .rw[aP _ _ _ _ e9];exact h j jb
def clX(n:Nat)(L:Nat->Nat)(i:Nat):C5:=⟨if L 1%(n+1)=i\/n<=L 1%(n+1)then-1 else .ofNat (L 1%(n+1)),.ofNat (L 2%3),oK (amt (L 3))⟩
def vY(n:Nat)(L:Nat->Nat->Nat):Nat->Nat->List C5
 |0=>λ_=>[]
 |k+1=>if 6<=(vY n L k (L k 0%n)).length then vY n L k else aK (vY n L k) (L k 0%n) (vY n L k (L k 0%n)++[clX n (L k) (L k 0%n)])
def ajR(n:Nat)(L:Nat->Nat->Nat)(k:Nat):vY n L (k+1)=if 6<=(vY n L k (L k 0%n)).length then vY n L k else aK (vY n L k) (L k 0%n) (vY n L k (L k 0%n)++[clX n (L k) (L k 0%n)]):=rfl
def FY(n:Nat)(P:Nat->Nat->Nat)(cl:Nat->List C5):Nat->Nat->List gB
 |0=>λ_=>[]
 |k+1=>if(FY n P cl k (P k 0%n)).length<2 then aK (FY n P cl k) (P k 0%n) (FY n P cl k (P k 0%n)++[anv (FY n P cl k (P k 0%n)) (cl (P k 0%n)).length (P k 0) (P k 1) (P k 2)])else FY n P cl k
def ajS(n:Nat)(P:Nat->Nat->Nat)(cl:Nat->List C5)(k:Nat):FY n P cl (k+1)=if(FY n P cl k (P k 0%n)).length<2 then aK (FY n P cl k) (P k 0%n) (FY n P cl k (P k 0%n)++[anv (FY n P cl k (P k 0%n)) (cl (P k 0%n)).length (P k 0) (P k 1) (P k 2)])else FY n P cl k:=rfl
def gdF(el:List xU)(D:Nat->Nat->Nat):Nat->List tX
 |0=>[]
 |k+1=>if(gdF el D k).length<3 then gdF el D k++[⟨oK (amt (D k 2)),owF el (gdF el D k) (D k 0) (D k 1)⟩]else gdF el D k
def ajT(el:List xU)(D:Nat->Nat->Nat)(k:Nat):gdF el D (k+1)=if(gdF el D k).length<3 then gdF el D k++[⟨oK (amt (D k 2)),owF el (gdF el D k) (D k 0) (D k 1)⟩]else gdF el D k:=rfl
def Va{n:Nat}{m m':Nat->Rat}(cl:Nat->List C5)(al:Nat->List gB)(h:∀i,i<n->m i=m' i):fK n m cl al=fK n m' cl al:=by unfold fK;exact List.map_congr_left λi hi=>by rw[h i (List.mem_range.mp hi)]
def anx{σ:St}(hW:WF σ){nm AY nl np nd:Nat}(hnm:nm<=255){cv lv pv dv:B}(M:Nat->Nat)(L P D:Nat->Nat->Nat)(hcv:HL σ.h 1 cv AY λi=>[.int .u16 (.ofNat (M i))])(hM:∀i,i<AY->M i<=65535)
  (hlv:HL σ.h 4 lv nl λi=>[.int .u16 (.ofNat (L i 0)),.int .u16 (.ofNat (L i 1)),.int .u16 (.ofNat (L i 2)),.int .u16 (.ofNat (L i 3))]) (hL:∀i j,i<nl->L i j<=65535) (hnl:nl<=9223372036854775806)
  (hpv:HL σ.h 3 pv np λi=>[.int .u16 (.ofNat (P i 0)),.int .u16 (.ofNat (P i 1)),.int .u16 (.ofNat (P i 2))]) (hP:∀i j,i<np->P i j<=65535) (hnp:np<=9223372036854775806)
  (hdv:HL σ.h 3 dv nd λi=>[.int .u16 (.ofNat (D i 0)),.int .u16 (.ofNat (D i 1)),.int .u16 (.ofNat (D i 2))]) (hD:∀i j,i<nd->D i j<=65535) (hnd:nd<=9223372036854775806):
  aC EN 12 [.c (.int .u8 (.ofNat nm)),.c cv,.c lv,.c pv,.c dv] σ λr σ'=>∃eb UG m cl bs A al dl,r=.agg [.sl eb 0 (1+nm%4) .opn,UG]/\GI σ σ' (σ.aj+1) (1+nm%4) eb UG m cl bs A al dl/\(∀i,i<1+nm%4->m i=gmF M AY i)/\cl=vY (1+nm%4) L nl/\al=FY (1+nm%4) P cl np/\dl=gdF (fK (1+nm%4) m cl al) D nd:=by
 refine aQ (Fz.o _ _) Fz.h ?_
 unfold Fz
 dsimp only
 simp(disch:=try exact jz) only[go_sem,z3]
 have hs1:1<=1+nm%4:=jb
 have hs4:1+nm%4<=4:=jb
 generalize 1+nm%4=n at*
 refine bJ.mono (Q:=λe tm σ'=>e=.exit 0/\∃ev m,Tr.ah tm 2=.c lv/\Tr.ah tm 3=.c pv/\Tr.ah tm 4=.c dv/\Tr.ah tm 10=.c (.ptr σ.aj 0)/\Tr.ah tm 11=.c (.ptr (σ.aj+1) 0)/\Tr.ah tm 12=.c (.int .i64 (.ofNat n))/\σ'.h σ.aj=some ⟨[.aW,.aW],none⟩/\G0 σ σ' (σ.aj+1) n ev m/\∀j,j<n->m j=gmF M AY j)
  (aF (λq tm σ'=>∃i ev m,q=n-i/\i<=n/\Tr.ah tm 1=.c cv/\Tr.ah tm 2=.c lv/\Tr.ah tm 3=.c pv/\Tr.ah tm 4=.c dv/\Tr.ah tm 10=.c (.ptr σ.aj 0)/\Tr.ah tm 11=.c (.ptr (σ.aj+1) 0)/\Tr.ah tm 12=.c (.int .i64 (.ofNat n))/\Tr.ah tm 13=.c (.int .i64 (.ofNat i))
   /\σ'.h σ.aj=some ⟨[.aW,.aW],none⟩/\G0 σ σ' (σ.aj+1) i ev m/\∀j,j<i->m j=gmF M AY j) n ?_ ?_) ?_
 .refine⟨0,.aW,λ_=>0,jb,jb,?_⟩
  simp(disch:=try exact jz) only[go_sem,z3,am]
  refine⟨⟨?_,.inl ⟨rfl,rfl⟩,λj hj=>jb,?_,?_⟩,λj hj=>jb⟩
  .rw[aA]
  .show σ.aj+1+1<=σ.aj+1+1;omega
  .exact fr
 .rintro q tm σ' ⟨i,ev,m,rfl,hi,t1,t2,t3,t4,t10,t11,t12,t13,q0,hG,hm9⟩
  have hF:=hG.fr
  have hle:=hF.le
  have hnx:=hG.nx
  have hb:=hG.b
  have hlen:=hcv.len
  simp(disch:=try exact jz) only[go_sem,z3,t1,t2,t3,t4,t10,t11,t12,t13,aG]
  refine aH (λhlt=>?_) (λhlt=>?_)
  .simp(disch:=try exact jz) only[go_sem,z3,t1,t2,t3,t4,t10,t11,t12,t13,hlen,aG]
   have hel:=amQ i m (λ_=>[]) (λ_=>0) (λ_=>.aW)
   have het:=aiO i m (λ_=>[]) (λ_=>0) (λ_=>.aW)
   refine aH (λhc=>?_) (λhc=>?_)
   .obtain⟨b,o,c,rfl,hld⟩:=hcv.one jb
    have hld:=hF.ld hW (hld i hc)
    have hbl:=hF.wf.dF hld
    have hMi:=hM i hc
    rcases hG.e with⟨rfl,rfl⟩|⟨eb,rfl,hi0,k1,k2,k3⟩
    .simp(disch:=try exact jz) only[go_sem,z3,t1,t2,t3,t4,t10,t11,t12,t13,hld,ak hb,hb]
     refine⟨n-(1),jb,1,_,aK m 0 (amt (M 0)),rfl,jb,rfl,q0,hG.push (nx:=σ'.aj+1+1) ⟨_,rfl⟩ ?_ ?_ ?_ ?_ ?_,Lj hm9 (ab hc).symm⟩
     .rw[aA]
     .rw[au _ _ _ _ jb,aA]<;>rfl
     .omega
     .omega
     .exact fr
    .simp(disch:=try exact jz) only[go_sem,z3,t1,t2,t3,t4,t10,t11,t12,t13,hld,ak hb,hb,k1,het]
     refine⟨n-(i+1),jb,i+1,_,aK m i (amt (M i)),rfl,jb,rfl,q0,hG.push (nx:=σ'.aj+1+1) ⟨_,rfl⟩ ?_ ?_ ?_ ?_ ?_,Lj hm9 (ab hc).symm⟩
     .rw[aA]
     .rw[au _ _ _ _ jb,aA]<;>rfl
     .omega
     .omega
     .exact fr
   .rcases hG.e with⟨rfl,rfl⟩|⟨eb,rfl,hi0,k1,k2,k3⟩
    .simp(disch:=try exact jz) only[go_sem,z3,t1,t2,t3,t4,t10,t11,t12,t13,ak hb,hb]
     refine⟨n-(1),jb,1,_,aK m 0 (0),rfl,jb,rfl,q0,hG.push (nx:=σ'.aj+1+1) ⟨0,XI.symm⟩ ?_ ?_ ?_ ?_ ?_,Lj hm9 (ae hc).symm⟩
     .rw[aA]
     .rw[au _ _ _ _ jb,aA]<;>rfl
     .omega
     .omega
     .exact fr
    .simp(disch:=try exact jz) only[go_sem,z3,t1,t2,t3,t4,t10,t11,t12,t13,ak hb,hb,k1,het]
     refine⟨n-(i+1),jb,i+1,_,aK m i (0),rfl,jb,rfl,q0,hG.push (nx:=σ'.aj+1+1) ⟨0,XI.symm⟩ ?_ ?_ ?_ ?_ ?_,Lj hm9 (ae hc).symm⟩
     .rw[aA]
     .rw[au _ _ _ _ jb,aA]<;>rfl
     .omega
     .omega
     .exact fr
  .have:i=n:=jb
   subst this
   simp(disch:=try exact jz) only[go_sem,z3,t1,am]
   exact⟨ev,m,t2,t3,t4,t10,t11,t12,q0,hG,hm9⟩
 .rintro _ tm σ' ⟨rfl,ev,m,t2,t3,t4,t10,t11,t12,q0,hG,hm9⟩
  have hlenL:=hlv.len
  obtain⟨eb,rfl,hn0,k1,k2,k3⟩:=hG.e.resolve_left jb
  have hG1:GI σ σ' (σ.aj+1) n eb .aW m (λ_=>[]) (λ_=>0) (λ_=>.aW) (λ_=>[]) []:=
   ⟨hG.b,oD.start k1 k2 k3,hG.m,λi hi=>⟨bp _,λk hk=>by simp at hk⟩,λi hi=>⟨bp _,λj hj=>by simp at hj⟩,⟨bp _,λj hj=>by simp at hj⟩,hG.nx,jb,hG.fr,λj hj=>by simp at hj⟩
  simp(disch:=try exact jz) only[go_sem,z3,t2,hlenL]
  refine bJ.mono (Q:=λe tm σ'=>e=.exit 2/\∃cl bs,Tr.ah tm 3=.c pv/\Tr.ah tm 4=.c dv/\Tr.ah tm 10=.c (.ptr σ.aj 0)/\Tr.ah tm 11=.c (.ptr (σ.aj+1) 0)/\Tr.ah tm 12=.c (.int .i64 (.ofNat n))/\σ'.h σ.aj=some ⟨[.aW,.aW],none⟩/\GI σ σ' (σ.aj+1) n eb .aW m cl bs (λ_=>.aW) (λ_=>[]) []/\cl=vY n L nl)
   (aF (λq tm σ'=>∃k cl bs,q=nl-k/\k<=nl/\Tr.ah tm 3=.c pv/\Tr.ah tm 4=.c dv/\Tr.ah tm 10=.c (.ptr σ.aj 0)/\Tr.ah tm 11=.c (.ptr (σ.aj+1) 0)/\Tr.ah tm 12=.c (.int .i64 (.ofNat n))/\Tr.ah tm 51=.c lv/\Tr.ah tm 52=.c (.int .i64 (.ofNat nl))/\Tr.ah tm 53=.c (.int .i64 (.ofNat k))/\σ'.h σ.aj=some ⟨[.aW,.aW],none⟩/\GI σ σ' (σ.aj+1) n eb .aW m cl bs (λ_=>.aW) (λ_=>[]) []/\cl=vY n L k) nl ?_ ?_) ?_
  .refine⟨0,λ_=>[],λ_=>0,jb,jb,?_⟩
   simp(disch:=try exact jz) only[go_sem,z3,t2,t3,t4,t10,t11,t12,am]
   exact⟨q0,hG1,rfl⟩
  .rintro q tm σ' ⟨k,cl,bs,rfl,hk,t3,t4,t10,t11,t12,t51,t52,t53,q0,hI,anz⟩
   have hF:=hI.fr
   have hle:=hF.le
   have hnx:=hI.nx
   have hb:=hI.b
   have asl:=hI.g.elo
   have amP:=hI.g.ehi
   have heE:=hI.g.e
   simp(disch:=try exact jz) only[go_sem,z3,t3,t4,t10,t11,t12,t51,t52,t53,aG]
   refine aH (λhlt=>?_) (λhlt=>?_)
   .obtain⟨b,o,c,rfl,hld⟩:=hlv.pos jb
    have hld:=hF.ld hW (hld k hlt)
    have l0:=hL k 0 hlt
    have l1:=hL k 1 hlt
    have l2:=hL k 2 hlt
    have l3:=hL k 3 hlt
    have hm0:L k 0%n<n:=cY _ jb
    have hlC:=hI.g.ldC hm0
    have hc6:=(hI.c _ hm0).1
    have hcs:=ajR n L k
    rw[<-anz]at hcs
    generalize hx:L k 0%n=i at*
    have hfl:=H9 (cl i) (bs i)
    have hfk:=qN (cl i) (bs i)
    have hge:∀a b:Nat,decide (Int.ofNat a<=Int.ofNat b)=decide (a<=b):=λa b=>by simp
    simp(disch:=try exact jz) only[go_sem,z3,t3,t4,t10,t11,t12,t51,t52,t53,hld,hx,ak hb,hlC,hfl,hge]
    refine aH (λh6=>?_) (λh6=>?_)
    .simp(disch:=try exact jz) only[go_sem,z3,t3,t4,t10,t11,t12,t51,t52,t53]
     exact⟨nl-(k+1),jb,k+1,cl,bs,rfl,jb,rfl,q0,hI.step (by have hFr:=Fr.refl hF.wf;exact fr),by rw[hcs,ab h6]⟩
    .have hct:=amO (cl i)
     have hcn:=arK (cl i)
     have hn1:0<n+1:=jb
     have hgood:∀hv:Int,(hv=-1\/∃j:Nat,j<n/\j≠i/\hv=(j:Int))->EW n i ⟨hv,.ofNat (L k 2%3),oK (amt (L k 3))⟩:=λhv h=>⟨h,⟨L k 2%3,jb,rfl⟩,_,rfl⟩
     have hwC:=λx=>arJ (m:=m) (cl:=cl) (bs:=bs) (A:=λ_=>.aW) (nx:=σ'.aj+1+1) hm0 x
     simp(disch:=try exact jz) only[go_sem,z3,t3,t4,t10,t11,t12,t51,t52,t53]
     refine VX (λhq=>?_) (λhq=>?_)
     .have hw:=hwC ⟨-1,.ofNat (L k 2%3),oK (amt (L k 3))⟩
      by_cases hz:(cl i).length=0
      .have he:kN (cl i) (bs i)=.aW:=by unfold kN;rw[ab hz]
       rw[hz]at hw
       simp(disch:=try exact jz) only[go_sem,z3,t3,t4,t10,t11,t12,t51,t52,t53,hx,ak hb,hlC,he,aI heE,heE,hw,hq]
       refine⟨nl-(k+1),jb,k+1,aK cl i (cl i++[⟨-1,.ofNat (L k 2%3),oK (amt (L k 3))⟩]),aK bs i (σ'.aj+1+1),rfl,jb,rfl,q0,hI.push hm0 jb (hgood _ (.inl rfl)) ?_ ?_ ?_ ?_ ?_ ?_ ?_,by rw[hcs,ae h6,clX,ab (.inl hq)]⟩
       .simp(disch:=omega) only[au,iq];exact hb
       .rw[aA]
       .rw[au _ _ _ _ jb,aA,hz];rfl
       .intro b9 h9 h8 h7 h6;simp(disch:=first|assumption|omega) only[au,iq]
       .omega
       .omega
       .exact fr
      .have he:=iT (l:=cl i) jb (bs i)
       obtain⟨c1,c2,c3,c4⟩:=hI.g.c i hm0 jb
       simp(disch:=try exact jz) only[go_sem,z3,t3,t4,t10,t11,t12,t51,t52,t53,hx,ak hb,hlC,he,c1,hct,aI heE,heE,hw,hq]
       refine⟨nl-(k+1),jb,k+1,aK cl i (cl i++[⟨-1,.ofNat (L k 2%3),oK (amt (L k 3))⟩]),aK bs i (σ'.aj+1+1),rfl,jb,rfl,q0,hI.push hm0 jb (hgood _ (.inl rfl)) ?_ ?_ ?_ ?_ ?_ ?_ ?_,by rw[hcs,ae h6,clX,ab (.inl hq)]⟩
       .simp(disch:=omega) only[au,iq];exact hb
       .rw[aA]
       .rw[au _ _ _ _ jb,aA];rfl
       .intro b9 h9 h8 h7 h6;have h6:=h6 jb;simp(disch:=first|assumption|omega) only[au,iq]
       .omega
       .omega
       .exact fr
     .simp(disch:=try exact jz) only[go_sem,z3,t3,t4,t10,t11,t12,t51,t52,t53,hq,hge]
      refine aH (λhq2=>?_) (λhq2=>?_)
      .have hw:=hwC ⟨-1,.ofNat (L k 2%3),oK (amt (L k 3))⟩
       by_cases hz:(cl i).length=0
       .have he:kN (cl i) (bs i)=.aW:=by unfold kN;rw[ab hz]
        rw[hz]at hw
        simp(disch:=try exact jz) only[go_sem,z3,t3,t4,t10,t11,t12,t51,t52,t53,hx,ak hb,hlC,he,aI heE,heE,hw]
        refine⟨nl-(k+1),jb,k+1,aK cl i (cl i++[⟨-1,.ofNat (L k 2%3),oK (amt (L k 3))⟩]),aK bs i (σ'.aj+1+1),rfl,jb,rfl,q0,hI.push hm0 jb (hgood _ (.inl rfl)) ?_ ?_ ?_ ?_ ?_ ?_ ?_,by rw[hcs,ae h6,clX,ab (.inr hq2)]⟩
        .simp(disch:=omega) only[au,iq];exact hb
        .rw[aA]
        .rw[au _ _ _ _ jb,aA,hz];rfl
        .intro b9 h9 h8 h7 h6;simp(disch:=first|assumption|omega) only[au,iq]
        .omega
        .omega
        .exact fr
       .have he:=iT (l:=cl i) jb (bs i)
        obtain⟨c1,c2,c3,c4⟩:=hI.g.c i hm0 jb
        simp(disch:=try exact jz) only[go_sem,z3,t3,t4,t10,t11,t12,t51,t52,t53,hx,ak hb,hlC,he,c1,hct,aI heE,heE,hw]
        refine⟨nl-(k+1),jb,k+1,aK cl i (cl i++[⟨-1,.ofNat (L k 2%3),oK (amt (L k 3))⟩]),aK bs i (σ'.aj+1+1),rfl,jb,rfl,q0,hI.push hm0 jb (hgood _ (.inl rfl)) ?_ ?_ ?_ ?_ ?_ ?_ ?_,by rw[hcs,ae h6,clX,ab (.inr hq2)]⟩
        .simp(disch:=omega) only[au,iq];exact hb
        .rw[aA]
        .rw[au _ _ _ _ jb,aA];rfl
        .intro b9 h9 h8 h7 h6;have h6:=h6 jb;simp(disch:=first|assumption|omega) only[au,iq]
        .omega
        .omega
        .exact fr
      .have hw:=hwC ⟨.ofNat (L k 1%(n+1)),.ofNat (L k 2%3),oK (amt (L k 3))⟩
       by_cases hz:(cl i).length=0
       .have he:kN (cl i) (bs i)=.aW:=by unfold kN;rw[ab hz]
        rw[hz]at hw
        simp(disch:=try exact jz) only[go_sem,z3,t3,t4,t10,t11,t12,t51,t52,t53,hx,ak hb,hlC,he,aI heE,heE,hw]
        refine⟨nl-(k+1),jb,k+1,aK cl i (cl i++[⟨.ofNat (L k 1%(n+1)),.ofNat (L k 2%3),oK (amt (L k 3))⟩]),aK bs i (σ'.aj+1+1),rfl,jb,rfl,q0,hI.push hm0 jb (hgood _ (.inr ⟨_,jb,hq,rfl⟩)) ?_ ?_ ?_ ?_ ?_ ?_ ?_,by rw[hcs,ae h6,clX,ae (λh=>h.elim hq hq2)]⟩
        .simp(disch:=omega) only[au,iq];exact hb
        .rw[aA]
        .rw[au _ _ _ _ jb,aA,hz];rfl
        .intro b9 h9 h8 h7 h6;simp(disch:=first|assumption|omega) only[au,iq]
        .omega
        .omega
        .exact fr
       .have he:=iT (l:=cl i) jb (bs i)
        obtain⟨c1,c2,c3,c4⟩:=hI.g.c i hm0 jb
        simp(disch:=try exact jz) only[go_sem,z3,t3,t4,t10,t11,t12,t51,t52,t53,hx,ak hb,hlC,he,c1,hct,aI heE,heE,hw]
        refine⟨nl-(k+1),jb,k+1,aK cl i (cl i++[⟨.ofNat (L k 1%(n+1)),.ofNat (L k 2%3),oK (amt (L k 3))⟩]),aK bs i (σ'.aj+1+1),rfl,jb,rfl,q0,hI.push hm0 jb (hgood _ (.inr ⟨_,jb,hq,rfl⟩)) ?_ ?_ ?_ ?_ ?_ ?_ ?_,by rw[hcs,ae h6,clX,ae (λh=>h.elim hq hq2)]⟩
        .simp(disch:=omega) only[au,iq];exact hb
        .rw[aA]
        .rw[au _ _ _ _ jb,aA];rfl
        .intro b9 h9 h8 h7 h6;have h6:=h6 jb;simp(disch:=first|assumption|omega) only[au,iq]
        .omega
        .omega
        .exact fr
   .have:k=nl:=jb
    subst this
    simp(disch:=try exact jz) only[go_sem,z3,am]
    exact⟨cl,bs,t3,t4,t10,t11,t12,q0,hI,anz⟩
  .rintro _ tm σ' ⟨rfl,cl,bs,t3,t4,t10,t11,t12,q0,hI,anz⟩
   have Og:=hpv.len
   simp(disch:=try exact jz) only[go_sem,z3,t3,Og]
   refine bJ.mono (Q:=λe tm σ'=>e=.exit 4/\∃A al,Tr.ah tm 4=.c dv/\Tr.ah tm 10=.c (.ptr σ.aj 0)/\Tr.ah tm 11=.c (.ptr (σ.aj+1) 0)/\σ'.h σ.aj=some ⟨[.aW,.aW],none⟩/\GI σ σ' (σ.aj+1) n eb .aW m cl bs A al []/\al=FY n P cl np)
    (aF (λq tm σ'=>∃k A al,q=np-k/\k<=np/\Tr.ah tm 4=.c dv/\Tr.ah tm 10=.c (.ptr σ.aj 0)/\Tr.ah tm 11=.c (.ptr (σ.aj+1) 0)/\Tr.ah tm 12=.c (.int .i64 (.ofNat n))/\Tr.ah tm 107=.c pv/\Tr.ah tm 108=.c (.int .i64 (.ofNat np))/\Tr.ah tm 109=.c (.int .i64 (.ofNat k))/\σ'.h σ.aj=some ⟨[.aW,.aW],none⟩/\GI σ σ' (σ.aj+1) n eb .aW m cl bs A al []/\al=FY n P cl k) np ?_ ?_) ?_
   .refine⟨0,λ_=>.aW,λ_=>[],jb,jb,?_⟩
    simp(disch:=try exact jz) only[go_sem,z3,t3,t4,t10,t11,t12,am]
    exact⟨q0,hI,rfl⟩
   .rintro q tm σ' ⟨k,A,al,rfl,hk,t4,t10,t11,t12,t107,UF,t109,q0,hI,anA⟩
    have hF:=hI.fr
    have hle:=hF.le
    have hnx:=hI.nx
    have hb:=hI.b
    have asl:=hI.g.elo
    have amP:=hI.g.ehi
    have heE:=hI.g.e
    simp(disch:=try exact jz) only[go_sem,z3,t4,t10,t11,t12,t107,UF,t109,aG]
    refine aH (λhlt=>?_) (λhlt=>?_)
    .obtain⟨b,o,c,rfl,hld⟩:=hpv.pos jb
     have hld:=hF.ld hW (hld k hlt)
     have l0:=hP k 0 hlt
     have l1:=hP k 1 hlt
     have l2:=hP k 2 hlt
     have hm0:P k 0%n<n:=cY _ jb
     have hlA:=hI.g.ldA hm0
     have hlE:=hI.g.ldE hm0
     rw[cG]at hlE
     unfold nJ at hlE
     have hc6:=(hI.c _ hm0).1
     have hgA:=hI.a _ hm0
     have hAa:=hI.g.a _ hm0
     have has:=ajS n P cl k
     rw[<-anA]at has
     generalize hx:P k 0%n=i at*
     have hAl:=hAa.choose_spec.1.len
     have hAk:=hAa.kn
     have hfl:=H9 (cl i) (bs i)
     have hfk:=qN (cl i) (bs i)
     simp(disch:=try exact jz) only[go_sem,z3,t4,t10,t11,t12,t107,UF,t109,hld,hx,ak hb,hlA,hAl,aG]
     refine aH (λh2=>?_) (λh2=>?_)
     .simp(disch:=try exact jz) only[go_sem,z3,t4,t10,t11,t12,t107,UF,t109,hld,hx,ak hb,hlE,hfk,hAk,aG]
      refine aC.st (Fr σ') (by have hFr:=Fr.refl hF.wf;exact fr) λhF3=>?_
      refine(anw hF3.wf (al i) (hAa.keep (λb hq=>hF3.old b hq.2.1) λ_ h=>h) (hgA.len jb) (cl i).length hfl jb rfl rfl rfl hfk _ _ _ l0 l1 l2).mono ?_
      rintro _ σ4 ⟨⟨rv,a,hae,rfl,hr,ha,hg⟩,hf4⟩
      have oW:=hF3.trans hf4
      have axH:=hF.trans oW
      have hb4:=oW.get hF.wf hb
      have axI:=oW.get hF.wf heE
      have xu:=oW.le
      have axJ:=oW.ld hF.wf hlE
      have axK:=hf4.get hF3.wf (aA _ _ _)
      have hw:=amN (m:=m) (cl:=cl) (bs:=bs) (A:=A) (rv:=rv) hm0
      simp(disch:=try exact jz) only[go_sem,z3,t4,t10,t11,t12,t107,UF,t109,ak hb4,hb4,axJ,axK,hfk,hAk,aI axI,hw]
      refine⟨np-(k+1),jb,k+1,aK A i rv,aK al i (al i++[a]),rfl,jb,rfl,oW.get hF.wf q0,hI.agr oW rfl hm0 jb (hr.keep (λ_ _=>rfl) λb9 h9=>h9.imp id λh9=>⟨by have h8:σ'.aj+1<=b9:=h9.1;omega,h9.2⟩) ha hg ?_ ?_ ?_ jp ?_,by rw[has,ab h2,hae]⟩
      .rw[au _ _ _ _ jb];exact hb4
      .rw[aA]
      .intro b9 h9 h8 h7
       rw[au _ _ _ _ h7]
      .exact fr
     .simp(disch:=try exact jz) only[go_sem,z3,t4,t10,t11,t12,t107,UF,t109]
      exact⟨np-(k+1),jb,k+1,A,al,rfl,jb,rfl,q0,hI.step (by have hFr:=Fr.refl hF.wf;exact fr),by rw[has,ae h2]⟩
    .have hk9:k=np:=jb
     subst hk9
     simp(disch:=try exact jz) only[go_sem,z3,am]
     exact⟨A,al,t4,t10,t11,q0,hI,anA⟩
   .rintro _ tm σ' ⟨rfl,A,al,t4,t10,t11,q0,hI,anA⟩
    have hlenD:=hdv.len
    simp(disch:=try exact jz) only[go_sem,z3,t4,hlenD]
    refine bJ.mono (Q:=λe tm σ'=>e=.exit 6/\∃UG dl,Tr.ah tm 10=.c (.ptr σ.aj 0)/\Tr.ah tm 11=.c (.ptr (σ.aj+1) 0)/\σ'.h σ.aj=some ⟨[.aW,.aW],none⟩/\GI σ σ' (σ.aj+1) n eb UG m cl bs A al dl/\dl=gdF (fK n m cl al) D nd)
     (aF (λq tm σ'=>∃k UG dl,q=nd-k/\k<=nd/\Tr.ah tm 10=.c (.ptr σ.aj 0)/\Tr.ah tm 11=.c (.ptr (σ.aj+1) 0)/\Tr.ah tm 139=.c dv/\Tr.ah tm 140=.c (.int .i64 (.ofNat nd))/\Tr.ah tm 141=.c (.int .i64 (.ofNat k))/\σ'.h σ.aj=some ⟨[.aW,.aW],none⟩/\GI σ σ' (σ.aj+1) n eb UG m cl bs A al dl/\dl=gdF (fK n m cl al) D k) nd ?_ ?_) ?_
    .refine⟨0,.aW,[],jb,jb,?_⟩
     simp(disch:=try exact jz) only[go_sem,z3,t4,t10,t11,am]
     exact⟨q0,hI,rfl⟩
    .rintro q tm σ' ⟨k,UG,dl,rfl,hk,t10,t11,t139,ajU,t141,q0,hI,anB⟩
     have hds:=ajT (fK n m cl al) D k
     rw[<-anB]at hds
     have hF:=hI.fr
     have hle:=hF.le
     have hnx:=hI.nx
     have hb:=hI.b
     have hDD:=hI.g.d
     have hDl:=hDD.choose_spec.1.len
     have hDk:=hDD.kn
     have hGG:=hI.g.grp .opn
     have hd3:=hI.d.1
     simp(disch:=try exact jz) only[go_sem,z3,t10,t11,t139,ajU,t141,aG]
     refine aH (λhlt=>?_) (λhlt=>?_)
     .obtain⟨b,o,c,rfl,hld⟩:=hdv.pos jb
      have hld:=hF.ld hW (hld k hlt)
      have l0:=hD k 0 hlt
      have l1:=hD k 1 hlt
      have l2:=hD k 2 hlt
      simp(disch:=try exact jz) only[go_sem,z3,t10,t11,t139,ajU,t141,hld,ak hb,hDk,hDl,aG]
      refine aH (λh2=>?_) (λh2=>?_)
      .simp(disch:=try exact jz) only[go_sem,z3,t10,t11,t139,ajU,t141,hld,ak hb,hDk,hDl,aG]
       refine aC.st (Fr σ') (by have hFr:=Fr.refl hF.wf;exact fr) λhF3=>?_
       have hEl:(fK n m cl al).length=n:=oZ ..
       refine(avY hF3.wf (fK n m cl al) dl (p:=Qt (σ.aj+1+1) σ'.aj eb n cl bs) (ev:=.sl eb 0 n .opn) (hGG.e.keep (q:=λ_=>True) (λb hq=>hF3.old b hq.2) λ_ _=>trivial) (hDD.keep (λb hq=>hF3.old b hq.2.1) λ_ h=>h) ⟨jb,λj hj=>by have:=(hI.d.2 j hj).1;omega⟩ jb (λj hj=>?_) _ _ _ l0 l1 l2).mono ?_
       .have hj':j<n:=jb
        rw[vX m cl al hj']
        have:=(hI.c j hj').1
        show(cl j).length<=1000
        omega
       .rintro _ σ4 ⟨⟨rv,d,hde,rfl,hr,hd1,hd2,hd3⟩,hf4⟩
        have oW:=hF3.trans hf4
        have axH:=hF.trans oW
        have hb4:=oW.get hF.wf hb
        have xu:=oW.le
        simp(disch:=try exact jz) only[go_sem,z3,t10,t11,t139,ajU,t141,aI hb4]
        refine⟨nd-(k+1),jb,k+1,rv,dl++[d],rfl,jb,rfl,oW.get hF.wf q0,hI.dbt oW jb (hr.keep (λ_ _=>rfl) λb9 h9=>h9.imp id λh9=>⟨by have h8:σ'.aj+1<=b9:=h9.1;omega,h9.2⟩) ⟨hd1,_,hd2⟩ hd3 ?_ ?_ jp ?_,by rw[hds,ab h2,hde]⟩
        .rw[aA]
        .intro b9 h9 h8
         rw[au _ _ _ _ jb]
        .exact fr
      .simp(disch:=try exact jz) only[go_sem,z3,t10,t11,t139,ajU,t141]
       exact⟨nd-(k+1),jb,k+1,UG,dl,rfl,jb,rfl,q0,hI.step (by have hFr:=Fr.refl hF.wf;exact fr),by rw[hds,ae h2]⟩
     .have hk9:k=nd:=jb
      subst hk9
      simp(disch:=try exact jz) only[go_sem,z3,am]
      exact⟨UG,dl,t10,t11,q0,hI,anB⟩
    .rintro _ tm σ' ⟨rfl,UG,dl,t10,t11,q0,hI,anB⟩
     have hF:=hI.fr
     have hb:=hI.b
     have hnx:=hI.nx
     have hDk:=hI.g.d.kn
     simp(disch:=try exact jz) only[go_sem,z3,t10,t11,ak hb,hDk,aI q0]
     refine⟨eb,UG,m,cl,bs,A,al,dl,rfl,⟨?_,?_,hI.m,hI.c,hI.a,hI.d,hI.nx,hI.lo,?_,hI.dg⟩,hm9,anz,anA,anB⟩
     .rw[au _ _ _ _ jb];exact hb
     .exact hI.g.mono (λb9 h9 h8=>au _ _ _ _ jb) jp
     .exact fr
end Go.Proofs.Xe
end
