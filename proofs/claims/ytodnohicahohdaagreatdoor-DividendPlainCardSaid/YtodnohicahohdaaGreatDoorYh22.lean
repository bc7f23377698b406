import Derived.Test.YtodnohicahohdaaGreatDoorYh21
set_option linter.all false
set_option maxRecDepth 100000
set_option maxHeartbeats 8000000
namespace Go.Proofs.Xe
open Go.RowKit Go.Proofs.Ins
def jF.lt{J:St}(hW:WF J){p:Nat->Prop}{v:B}{l:List oM}(hl:jF p J.h v l):jF (Lt J.aj) J.h v l:=by obtain⟨L,h3,h4⟩:=hl;exact⟨L,h3.lt hW,λi hi=>(h4 i hi).lt hW⟩
theorem jF.fr{J J':St}(hW:WF J)(hf:Fr J J'){p:Nat->Prop}{v:B}{l:List oM}(hl:jF p J.h v l):jF (Lt J.aj) J'.h v l:=(hl.lt hW).keep hf.lt λ_ h=>h
def avH(dl:List oM)(i c:Int):Prop:=∀j,j<dl.length->∀t,t<(ix dl j).l.length->¬((ix (ix dl j).l t).e=i/\(ix (ix dl j).l t).k=c)
def azs(dl:List oM):Prop:=dl.length<=1000/\∀j,j<dl.length->(ix dl j).l.length<=1000
def aqf{J:St}(hW:WF J){p:Nat->Prop}{ev dv:B}(dl:List oM)(hD:jF p J.h dv dl)(hl:azs dl)(h1:ev.kn=true)(i c:Int):
  aB EN 76 [.agg [ev,dv],.c (.int .i64 i),.c (.int .i64 c)] J λr J'=>(∃b,r=.c (.bool b)/\(b=false->avH dl i c))/\Fr J J':=by
 refine aI (Iq.o _ _) Iq.h ?_
 unfold Iq
 dsimp only
 obtain⟨T,hT,hT2⟩:=hD
 have hlen:=hT.len
 have hkn:=hT.kn
 simp(disch:=try exact jz)only[go_sem,hkn,hlen]
 refine aG (λq tm J'=>∃j,q=dl.length-j/\j<=dl.length/\r8 tm 1=.c (.int .i64 i)/\r8 tm 2=.c (.int .i64 c)/\r8 tm 12=.c dv/\r8 tm 13=jN dl.length/\r8 tm 14=jN j/\(∀j',j'<j->∀t,t<(ix dl j').l.length->¬((ix (ix dl j').l t).e=i/\(ix (ix dl j').l t).k=c))/\Fr J J') dl.length ?_ ?_
 .refine⟨0,jb,jb,?_⟩
  refine WP ?_
  exact⟨λj' h=>jb,fr⟩
 .rintro q tm J' ⟨j,rfl,hj,t1,t2,t12,t13,t14,hN,hf⟩
  have hle:=hf.le
  have hl0:=hl.1
  simp(disch:=try exact jz)only[go_sem,t13,t14,aC]
  refine aH (λhlt=>?_) (λhlt=>?_)
  .obtain⟨b,o,cc,rfl,-,hld⟩:=hT.pos jb
   have hld:=hf.ld hW (hld j hlt)
   have hTj:=hT2 j hlt
   have hlj:=hl.2 j hlt
   generalize hag:ix dl j=ag at*
   have akZ:=hTj.len
   have aBY:=hTj.kn
   simp(disch:=try exact jz)only[go_sem,t12,t14,hld,aBY,akZ]
   refine aG (λq tm σ3=>∃t,q=ag.l.length-t/\t<=ag.l.length/\r8 tm 1=.c (.int .i64 i)/\r8 tm 2=.c (.int .i64 c)/\r8 tm 12=.c (.sl b o dl.length cc)/\r8 tm 13=jN dl.length/\r8 tm 14=jN j
    /\r8 tm 19=.c (T j)/\r8 tm 20=jN ag.l.length/\r8 tm 21=jN t/\(∀t',t'<t->¬((ix ag.l t').e=i/\(ix ag.l t').k=c))/\Fr J σ3) ag.l.length ?_ ?_
   .refine⟨0,jb,jb,?_⟩
    refine W1 ?_
    exact⟨λt' h=>jb,fr⟩
   .rintro q tm3 σ3 ⟨t,rfl,ht,t1,t2,t12,t13,t14,t19,t20,t21,hM,hf3⟩
    have hle3:=hf3.le
    simp(disch:=try exact jz)only[go_sem,t20,t21,aC]
    refine aH (λhlt3=>?_) (λhlt3=>?_)
    .obtain⟨b3,o3,c3,e3,-,vP⟩:=hTj.pos jb
     have vP:=hf3.ld hW (vP t hlt3)
     unfold Oh at vP
     rw[e3]at t19
     simp(disch:=try exact jz)only[go_sem,t1,t19,t21,vP]
     refine Af (λhq=>?_) (λhq=>?_)
     .simp(disch:=try exact jz)only[go_sem,t2,hq]
      refine aH (λhq2=>?_) (λhq2=>?_)
      .refine WN ?_
       exact⟨⟨_,rfl,λh=>by cases h⟩,fr⟩
      .refine W0 ?_
       exact⟨ag.l.length-(t+1),jb,t+1,rfl,jb,by rw[e3],rfl,λt' h'=>by
        by_cases e:t'=t
        .rw[e];exact λh=>hq2 h.2
        .exact hM t' jb,fr⟩
     .simp(disch:=try exact jz)only[go_sem,W4,hq]
      exact⟨ag.l.length-(t+1),jb,t+1,rfl,jb,by rw[e3],rfl,λt' h'=>by
       by_cases e:t'=t
       .rw[e];exact λh=>hq h.1
       .exact hM t' jb,fr⟩
    .have:t=ag.l.length:=jb
     subst this
     simp(disch:=try exact jz)only[go_sem,t1,t2,t12,t13,t14]
     exact⟨dl.length-(j+1),jb,j+1,rfl,jb,rfl,λj' h'=>by
      by_cases e:j'=j
      .rw[e,hag];exact hM
      .exact hN j' jb,hf3⟩
  .have:j=dl.length:=jb
   subst this
   refine WN ?_
   exact⟨⟨_,rfl,λ_=>hN⟩,hf⟩
structure LI(J J':St)(ev dv:B)(d0 d1 d2:Nat)(w:Rat)(l:List Ins.Lg)(bl:Nat):Prop where
 q1:J'.h J.aj=some ⟨[ev,dv],none⟩
 q2:J'.h (J.aj+1)=some ⟨[.int .u16 (.ofNat d0),.int .u16 (.ofNat d1),.int .u16 (.ofNat d2)],none⟩
 b:J'.h (J.aj+1+1)=some ⟨[.bool (rn w),.str (rs w),.str (rd w),mQ l bl],none⟩
 lb:0<l.length->J'.h bl=some ⟨bf l.length (λk=>Oh (ix l k)),some (2,114)⟩/\J.aj+1+1+1<=bl/\bl<J'.aj
 n:l.length<=4
 nx:J.aj+1+1+1<=J'.aj
 fr:Fr J J'
structure WZ(el:List yg)(dl:List oM)(i j:Nat)(hv:Int)(l:List Ins.Lg):Prop where
 r:∀x∈l,∃e k:Nat,x=⟨.ofNat e,.ofNat k⟩/\e<el.length/\k<(ix el e).c.length/\avH dl (.ofNat e) (.ofNat k)/\holdL el x=hv/\(e<i\/e=i/\k<j)
 nd:l.Nodup
def LGf(el:List yg)(dl:List oM)(l:List Ins.Lg):Prop:=∃hv,WZ el dl el.length 0 hv l
section
variable {el:List yg} {dl:List oM} {i j:Nat} {hv hv' : Int} {l:List Ins.Lg}
theorem WZ.nil:WZ el dl i j hv []:=⟨λx hx=>by simp at hx,List.nodup_nil⟩
def WZ.next(h:WZ el dl i j hv l):WZ el dl i (j+1) hv l:=⟨λx hx=>by obtain⟨e,k,h1,h2,h3,h4,h5,h6⟩:=h.r x hx;exact⟨e,k,h1,h2,h3,h4,h5,jb⟩,h.nd⟩
def WZ.row(h:WZ el dl i j hv l):WZ el dl (i+1) 0 hv l:=⟨λx hx=>by obtain⟨e,k,h1,h2,h3,h4,h5,h6⟩:=h.r x hx;exact⟨e,k,h1,h2,h3,h4,h5,jb⟩,h.nd⟩
def WZ.push(h:WZ el dl i j hv l)(hi:i<el.length){cl:List C5}(he:(ix el i).c=cl)(hj:j<cl.length)(hN:avH dl (.ofNat i) (.ofNat j))(hh:l=[]\/hv=hv')(hx:(ix cl j).h=hv'):WZ el dl i (j+1) hv' (l++[⟨.ofNat i,.ofNat j⟩]):=by
 refine⟨λx hm=>?_,?_⟩
 .rcases bO.mp hm with hm|hm
  .obtain⟨e,k,h1,h2,h3,h4,h5,h6⟩:=h.r x hm;rcases hh with hh|hh
   .rw[hh]at hm;cases hm
   .exact⟨e,k,h1,h2,h3,h4,by rw[h5,hh],jb⟩
  .rw[cU]at hm;subst hm;refine⟨i,j,rfl,hi,by rw[he];exact hj,hN,?_,jb⟩;show(ix (ix el i).c j).h=_;rw[he];exact hx
 .rw[fo];refine⟨h.nd,(gy.mpr ⟨List.not_mem_nil,List.nodup_nil⟩),λa ha b hb e=>?_⟩;rw[cU]at hb;subst hb;obtain⟨e',k,h1,-,-,-,-,h6⟩:=h.r a ha;rw[e]at h1;have h7:=(Ins.Lg.mk.inj h1).1;have h8:=(Ins.Lg.mk.inj h1).2;have h7:=Int.ofNat.inj h7;have h8:=Int.ofNat.inj h8;omega
def WZ.perm{l':List Ins.Lg}(h:WZ el dl i j hv l)(hp:l'.Perm l):WZ el dl i j hv l':=⟨λx hx=>h.r x (hp.mem_iff.mp hx),hp.nodup_iff.mpr h.nd⟩
def swap_perm{l:List Ins.Lg}{i j:Nat}(hi:i<l.length)(hj:j<l.length):((l.set i (ix l j)).set j (ix l i)).Perm l:=by rw[dY hi,dY hj];exact List.set_set_perm hi hj
end
section
variable {J J' : St} {ev dv:B} {d0 d1 d2:Nat} {w:Rat} {l:List Ins.Lg} {bl:Nat}
def LI.step(hL:LI J J' ev dv d0 d1 d2 w l bl){σ3:St}(hf:Fr J' σ3):LI J σ3 ev dv d0 d1 d2 w l bl:=by
 have hn:=hL.nx;have hle:=hf.le;refine⟨?_,?_,?_,λh0=>?_,hL.n,jb,hL.fr.trans hf⟩
 .rw[hf.old _ jb];exact hL.q1
 .rw[hf.old _ jb];exact hL.q2
 .rw[hf.old _ jb];exact hL.b
 .obtain⟨k1,k2,k3⟩:=hL.lb h0;exact⟨by rw[hf.old _ k3];exact k1,k2,jb⟩
def LI.push(hL:LI J J' ev dv d0 d1 d2 w l bl){nx n':Nat}{x:Ins.Lg}{h':Tr Bk}(hl:l.length<=3)(hb:h' (J.aj+1+1)=some ⟨[.bool (rn w),.str (rs w),.str (rd w),.sl nx 0 (l.length+1) .opn],none⟩)
  (hx:h' nx=some ⟨bf l.length (λk=>Oh (ix l k))++Oh x,some (2,114)⟩) (ho:∀b,b<J.aj+1+1->h' b=J'.h b) (hn:J'.aj<=nx) (hn':nx<n') (hf:Fr J ⟨h',n'⟩):LI J ⟨h',n'⟩ ev dv d0 d1 d2 w (l++[x]) nx:=by
 have hn1:=hL.nx
 refine⟨by rw[ho _ jb];exact hL.q1,by rw[ho _ jb];exact hL.q2,?_,λ_=>⟨?_,jb,hn'⟩,by simp;omega,by show _<=n';omega,hf⟩
 .rw[jm kc,az];exact hb
 .rw[az,bz]
  show h' nx=_
  rw[hx,jA]
  congr 2
  refine bC λk hk=>?_
  unfold je
  split
  .next e=>rw[e,gU]
  .rw[gQ _ _ jb]
def LI.set(hL:LI J J' ev dv d0 d1 d2 w l bl){h':Tr Bk}{l':List Ins.Lg}(h0:0<l.length)(hl:l'.length=l.length)(hb:h' bl=some ⟨bf l.length (λk=>Oh (ix l' k)),some (2,114)⟩)(ho:∀b,b≠bl->h' b=J'.h b)(hf:Fr J ⟨h',J'.aj⟩):LI J ⟨h',J'.aj⟩ ev dv d0 d1 d2 w l' bl:=by have hn1:=hL.nx;obtain⟨k1,k2,k3⟩:=hL.lb h0;refine⟨by rw[ho _ jb];exact hL.q1,by rw[ho _ jb];exact hL.q2,?_,λ_=>⟨by rw[hl];exact hb,k2,k3⟩,by rw[hl];exact hL.n,hL.nx,hf⟩;rw[ho _ jb,hL.b];unfold mQ;rw[hl]
def avI(l:List Ins.Lg):l.length*2<=(bf l.length (λk=>Oh (ix l k))).length:=by rw[lS (e:=2) λ_=>rfl];exact jp
def aqg(l:List Ins.Lg):(bf l.length (λk=>Oh (ix l k))).take (l.length*2)=bf l.length (λk=>Oh (ix l k)):=jC λ_=>rfl
def asM{n i:Nat}(l:List Ins.Lg)(hn:l.length=n)(y:Ins.Lg)(hi:i<n):yc (bf n λk=>Oh (ix l k)) (i*2) [.int .i64 y.e,.int .i64 y.k]=some (bf n λk=>Oh (ix (l.set i y) k)):=by
 have:=yP (e:=2) (k:=0) (vs:=Oh y) (G:=λk=>Oh (ix l k)) (λ_=>rfl) hi (by exact cL 2);rw[cy]at this;show yc _ _ (Oh y)=_;rw[this];show some _=some _;congr 1;refine bC λk hk=>?_;unfold je;rw[show ix (l.set i y) k=if k=i then y else ix l k by
  unfold ix;rw[ff,ff,List.getElem?_set];by_cases e:k=i
  .subst e;rw[ab rfl,ab rfl,ab jb];rfl
  .rw[ae e,ae (Ne.symm e)]]
 split<;>rfl
def asO{n i:Nat}(l:List Ins.Lg)(hi:i<n):zT (bf n λk=>Oh (ix l k)) (i*2) 2 true=some (.agg [.int .i64 (ix l i).e,.int .i64 (ix l i).k]):=by have:=AQ (e:=2) (k:=0) (m:=2) (G:=λk=>Oh (ix l k)) true (λ_=>rfl) hi jj jj;rw[cy]at this;rw[this];rfl
end
def EI.at{p:Nat->Prop}{h:Tr Bk}{v:B}{el:List yg}(hE:EI p h v el){i:Nat}(hi:i<el.length):∃b o c,v=.sl b o el.length c/\∃C A:B,ld h b (o+i*5) 5 true=some (.agg [.bool (ix el i).m.n,.str (ix el i).m.s,.str (ix el i).m.d,C,A])/\ld h b (o+i*5+3) 1 false=some (.c C)/\lT p h C (ix el i).c/\iO p h A (ix el i).a:=by obtain⟨C,A,h1,h2⟩:=hE;obtain⟨b,o,c,e,-,hld⟩:=h1.pos jb;refine⟨b,o,c,e,C i,A i,hld i hi,?_,h2 i hi⟩;rw[rM (hld i hi) 3 1 false jj jj];unfold zT;have:=(h2 i hi).1.kn;simp[this]
def EI.len{p:Nat->Prop}{h:Tr Bk}{v:B}{l:List yg}(hl:EI p h v l):lenV (.c v)=some (jN l.length):=hl.choose_spec.choose_spec.1.len
def jF.el{p:Nat->Prop}{h:Tr Bk}{v:B}{dl:List oM}(hD:jF p h v dl){i:Nat}(hi:i<dl.length):∃b o c,v=.sl b o dl.length c/\∃T:B,ld h b (o+i*4) 4 true=some (.agg [.bool (ix dl i).w.n,.str (ix dl i).w.s,.str (ix dl i).w.d,T])/\yh p h T (ix dl i).l:=by obtain⟨L,h1,h2⟩:=hD;obtain⟨b,o,c,e,-,hld⟩:=h1.pos jb;exact⟨b,o,c,e,L i,hld i hi,h2 i hi⟩
def jF.len{p:Nat->Prop}{h:Tr Bk}{v:B}{dl:List oM}(hD:jF p h v dl):lenV (.c v)=some (jN dl.length):=hD.choose_spec.1.len
def azt:jk .sub (jN 0) (jN 1)=some (.c (.int .i64 (.negSucc 0))):=rfl
def aBZ:decide (Int.ofNat 0<Int.negSucc 0)=false:=rfl
def aqh{J J':St}{ev dv:B}{d0 d1 d2:Nat}{w:Rat}{l:List Ins.Lg}{bl:Nat}{dl:List oM}(hW:WF J){p:Nat->Prop}{T:Nat->B}(hT2:∀j,j<dl.length->yh p J.h (T j) (ix dl j).l)(hT1:aZ p J.h 4 dv dl.length (λi=>[.bool (ix dl i).w.n,.str (ix dl i).w.s,.str (ix dl i).w.d,T i]))(hL:LI J J' ev dv d0 d1 d2 w l bl){el:List yg}(hG:LGf el dl l)
  {h':Tr Bk}{n' rb:Nat}(hr:h' rb=some ⟨bf (dl.length+1) (λj=>if j<dl.length then [.bool (ix dl j).w.n,.str (ix dl j).w.s,.str (ix dl j).w.d,T j]else [.bool (rn w),.str (rs w),.str (rd w),mQ l bl]),some (4,140)⟩) (ho:∀b,b<J'.aj->h' b=J'.h b) (hrb:J'.aj<=rb) (hn:rb<n') (hf:Fr J ⟨h',n'⟩):
  (∃rv d,V.c (.sl rb 0 (dl.length+1) .opn)=.c rv/\jF (λb=>p b\/J.aj<=b/\b<n') h' rv (dl++[d])/\d.l.length<=4/\d.w=sO w/\LGf el dl d.l)/\Fr J ⟨h',n'⟩:=by
 have hle:=hL.fr.le
 have hn1:=hL.nx
 refine⟨⟨_,⟨sO w,l⟩,rfl,⟨λj=>if j<dl.length then T j else mQ l bl,?_,λj hj=>?_⟩,hL.n,rfl,hG⟩,hf⟩
 .have:(dl++[(⟨sO w,l⟩:oM)]).length=dl.length+1:=by simp
  rw[this]
  have Ll:∀j,j<dl.length->(T j).kn=true:=λj hj=>(hT2 j hj).kn
  refine(bK (p:=λb=>p b\/J.aj<=b/\b<n') _ hr rfl (.inr ⟨jb,hn⟩) (λj=>?_) jj λj hj=>?_).congr λj hj=>?_
  .split<;>rfl
  .split
   .next e=>simp only[cw,cY,Ll j e,wB,AP,cG]
   .simp only[cw,cY,rE,wB,AP,cG]
  .dsimp only
   split
   .next e=>rw[gQ _ _ e]
   .next e=>
    obtain rfl:j=dl.length:=jb
    rw[gU];rfl
 .have hj':j<dl.length+1:=by simpa using hj
  dsimp only
  by_cases e:j<dl.length
  .rw[ab e,gQ _ _ e]
   refine(aZ.plt hW (hT2 j e)).keep (λb hb=>?_) λb hb=>.inl hb.1
   rw[ho b jb,hL.fr.old b hb.2]
  .rw[ae e]
   obtain rfl:j=dl.length:=jb
   rw[gU]
   by_cases h0:l.length=0
   .exact .inl ⟨h0,by unfold mQ;rw[ab h0]⟩
   .obtain⟨k1,k2,k3⟩:=hL.lb jb
    rw[jm jb]
    exact bK (p:=λb=>p b\/J.aj<=b/\b<n') _ (by rw[ho _ k3];exact k1) rfl (.inr ⟨jb,jb⟩) (λ_=>rfl) jj λ_ _=>rfl
theorem azu {J:St} (hW:WF J) {p p' : Nat→Prop} {ev dv:B} (el:List yg) (dl:List oM) (hE:EI p' J.h ev el) (hD:jF p J.h dv dl) (hl:azs dl) (hel:el.length≤1000) (hcl : ∀ i,i<el.length→(ix el i).c.length≤1000)
  (d0 d1 d2:Nat) (b0:d0≤65535) (b1:d1≤65535) (b2:d2≤65535) :
  aB EN 35 [.agg [ev,dv],.agg [.int .u16 (.ofNat d0),.int .u16 (.ofNat d1),.int .u16 (.ofNat d2)]] J fun r J'=>(∃ rv d,r = .c rv∧jF (fun b=>p b∨J.aj≤b∧b<J'.aj) J'.h rv (dl ++ [d])∧d.l.length≤4∧d.w=sO (amt d2)∧LGf el dl d.l)∧Fr J J':=by
 refine aI (Qo.o _ _) Qo.h ?_
 unfold Qo
 dsimp only
 have hek:=hE.kn
 have hdk:=hD.kn
 have hlenE:=hE.len
 simp (disch:=try exact jz) only [go_sem,z3,hek,hlenE]
 refine bI.mono (Q:=fun e tm J'=>e = .exit 0∧∃ l bl,r8 tm 2 = .c (.ptr J.aj 0)∧r8 tm 3 = .c (.ptr (J.aj+1) 0)∧r8 tm 5 = .c (.ptr (J.aj+1+1) 0)∧LGf el dl l∧LI J J' ev dv d0 d1 d2 (amt d2) l bl)
  (aG (fun q tm J'=>∃ i k hv l bl,q=el.length - i∧i≤el.length∧k≤i*1000∧r8 tm 2 = .c (.ptr J.aj 0)∧r8 tm 3 = .c (.ptr (J.aj+1) 0)∧r8 tm 5 = .c (.ptr (J.aj+1+1) 0)∧r8 tm 6 = .c (.int .i64 (.ofNat k))∧r8 tm 7 = .c (.int .i64 hv)∧r8 tm 20 = .c (.int .i64 (.ofNat el.length))∧r8 tm 21 = .c (.int .i64 (.ofNat i))
   ∧ WZ el dl i 0 hv l∧LI J J' ev dv d0 d1 d2 (amt d2) l bl) el.length ?_ ?_) ?_
 ·refine ⟨0,0,0,[],0,jb,jb,jb,?_⟩
  simp (disch:=try exact jz) only [go_sem,z3,true_and]
  refine ⟨rfl,WZ.nil,?_,?_,?_,fun h=>by simp at h,Nat.zero_le _,jp,?_⟩
  ·simp (disch:=omega) only [au,aA]
  ·simp (disch:=omega) only [au,aA]
  ·rw [aA];rfl
  ·exact fr
 ·rintro q tm J' ⟨i,k,hv,l,bl,rfl,hi,hk,t2,t3,t5,t6,t7,t20,t21,hG,hL⟩
  simp (disch:=try exact jz) only [go_sem,z3,t20,t21,aC]
  refine aH (fun hlt=>?_) (fun hlt=>?_)
  ·obtain ⟨b,o,c,rfl,C,A,ahq,vP,hC,-⟩:=hE.at hlt
   have vP:=hL.fr.ld hW vP
   have aB0:=hcl i hlt
   generalize hei:(ix el i).c=cl at *
   have Fe:=hC.len
   have aDA:=hC.kn
   have q1:=hL.q1
   have q2:=hL.q2
   simp (disch:=try exact jz) only [go_sem,z3,t2,t21,ay q1,hek,vP,Fe]
   refine aG (fun q tm σ3=>∃ j k hv l bl,q=cl.length - j∧j≤cl.length∧k≤i*1000+j∧r8 tm 2 = .c (.ptr J.aj 0)∧r8 tm 3 = .c (.ptr (J.aj+1) 0)∧r8 tm 5 = .c (.ptr (J.aj+1+1) 0)∧r8 tm 6 = .c (.int .i64 (.ofNat k))∧r8 tm 7 = .c (.int .i64 hv)∧r8 tm 8 = .c (.int .i64 (.ofNat i))∧r8 tm 20 = .c (.int .i64 (.ofNat el.length))∧r8 tm 21 = .c (.int .i64 (.ofNat i))
    ∧ r8 tm 29 = .c C∧r8 tm 30 = .c (.int .i64 (.ofNat cl.length))∧r8 tm 31 = .c (.int .i64 (.ofNat j))∧WZ el dl i j hv l∧LI J σ3 (.sl b o el.length c) dv d0 d1 d2 (amt d2) l bl) cl.length ?_ ?_
   ·refine ⟨0,k,hv,l,bl,jb,jb,jb,?_⟩
    simp (disch:=try exact jz) only [go_sem,z3,t2,t3,t5,t6,t7,t20,t21,true_and]
    exact ⟨hG,hL⟩
   ·rintro q tm3 σ3 ⟨j,k3,hv3,l3,bl3,rfl,hj,hk3,t2,t3,t5,t6,t7,t8,t20,t21,t29,t30,t31,hG3,hL3⟩
    simp (disch:=try exact jz) only [go_sem,z3,t30,t31,aC]
    refine aH (fun hlt3=>?_) (fun hlt3=>?_)
    ·obtain ⟨b5,o5,c5,e5,-,bD⟩:=hC.pos jb
     have bD:=hL3.fr.ld hW (bD j hlt3)
     unfold Ym at bD
     have q1:=hL3.q1
     have q2:=hL3.q2
     have hn3:=hL3.nx
     have hle3:=hL3.fr.le
     rw [e5] at t29
     simp (disch:=try exact jz) only [go_sem,z3,t2,t8,t29,t31,bD,ay q1,hek,hdk]
     refine aB.st (Fr σ3) (by have hF:=Fr.refl hL3.fr.wf;exact fr) fun hF3=>?_
     refine (aqf hF3.wf dl ((hD.fr hW hL3.fr).fr hL3.fr.wf hF3) hl hek (.ofNat i) (.ofNat j)).mono ?_
     rintro _ σ4 ⟨⟨fb,rfl,hNT⟩,hf4⟩
     have iK:=hF3.trans hf4
     have hL4:=hL3.step iK
     have qM:=iK.le
     have hn4:=hL4.nx
     have b4:=hL4.b
     have q2:=hL4.q2
     have hll:=hL4.n
     have aeJ:=Fb l3 bl3
     have ZN:=rE l3 bl3
     have htb:σ4.h σ3.aj=some ⟨[.int .i64 (ix cl j).h,.int .i64 (ix cl j).r,.bool (ix cl j).a.n,.str (ix cl j).a.s,.str (ix cl j).a.d],none⟩:=hf4.get hF3.wf (aA _ _ _)
     have hr0:=wC d0 (2 ^ min (k3%16) 64) 9223372036854775807 jb
     have hk5:k3≤2000000:=by
      have:=Nat.mul_le_mul_right 1000 (show i≤1000 by omega)
      omega
     have aDB:k3%16<16:=Nat.mod_lt _ jj
     cases fb
     ·simp (disch:=try exact jz) only [go_sem,z3,t5,t8,ay b4,aeJ,ZN]
      refine aH (fun hl4=>?_) (fun hl4=>?_)
      ·simp (disch:=try exact jz) only [go_sem,z3,t2,t3,t5,t6,t7,t8,t20,t21,t30,t31]
       exact ⟨cl.length - (j+1),jb,j+1,k3,hv3,l3,bl3,rfl,jb,jb,rfl,rfl,by rw [e5];exact t29,rfl,hG3.next,hL4⟩
      ·simp (disch:=try exact jz) only [go_sem,z3,t3,t6,ay q2]
       have aDC:=hL4.fr
       have hl5:l3.length≤3:=by first|omega|exact Nat.le_of_lt_succ (Nat.lt_of_not_le hl4)
       have aC6:σ3.aj≤σ4.aj:=iK.le
       refine Af (fun hw=>?_) (fun hw=>?_)
       ·by_cases hz:l3.length=0
        ·have he:mQ l3 bl3 = .aQ:=by unfold mQ;rw [if_pos hz]
         simp (disch:=try exact jz) only [go_sem,z3,t2,t3,t5,t8,t20,t21,t30,t31,hw,ay b4,b4,he,ay htb]
         refine ⟨cl.length - (j+1),jb,j+1,k3+1,_,l3 ++ [⟨.ofNat i,.ofNat j⟩],_,rfl,jb,jb,rfl,rfl,by rw [e5];exact t29,rfl,hG3.push hlt hei hlt3 (hNT rfl) (.inl (List.eq_nil_of_length_eq_zero hz)) rfl,LI.push (nx:=σ4.aj+1) hL4 jb ?_ ?_ ?_ ?_ ?_ ?_⟩
         ·rw [aA,hz]
         ·rw [au _ _ _ _ jb,aA,hz];rfl
         ·intro b9 h9;simp (disch:=omega) only [au]
         ·omega
         ·omega
         ·exact fr
        ·have he:=jm (l:=l3) jb bl3
         obtain ⟨k1,k2,k9⟩:=hL4.lb jb
         have hpl:=avI l3
         have hpt:=aqg l3
         have hz2 : ¬ (0=l3.length):=jb
         simp (disch:=try exact jz) only [go_sem,z3,t5,t7,hw,ay b4,he,ay htb,hz]
         refine aH (fun hh=>?_) (fun hh=>?_)
         ·simp (disch:=try exact jz) only [go_sem,z3,t2,t3,t5,t8,t20,t21,t30,t31,ay b4,b4,he,ay htb,k1,hpt]
          refine ⟨cl.length - (j+1),jb,j+1,k3+1,_,l3 ++ [⟨.ofNat i,.ofNat j⟩],_,rfl,jb,jb,rfl,rfl,by rw [e5];exact t29,rfl,hG3.push hlt hei hlt3 (hNT rfl) (.inr (by first|exact hh|exact hh.symm)) rfl,LI.push (nx:=σ4.aj+1) hL4 jb ?_ ?_ ?_ ?_ ?_ ?_⟩
          ·rw [aA]
          ·rw [au _ _ _ _ jb,aA];rfl
          ·intro b9 h9;simp (disch:=omega) only [au,fE]
          ·omega
          ·omega
          ·exact fr
         ·simp (disch:=try exact jz) only [go_sem,z3,t2,t3,t5,t7,t8,t20,t21,t30,t31]
          exact ⟨cl.length - (j+1),jb,j+1,k3+1,hv3,l3,bl3,rfl,jb,jb,rfl,rfl,by rw [e5];exact t29,rfl,hG3.next,hL4⟩
       ·simp (disch:=try exact jz) only [go_sem,z3,t2,t3,t5,t7,t8,t20,t21,t30,t31,hw]
        exact ⟨cl.length - (j+1),jb,j+1,k3+1,hv3,l3,bl3,rfl,jb,jb,rfl,rfl,by rw [e5];exact t29,rfl,hG3.next,hL4⟩
     ·simp (disch:=try exact jz) only [go_sem,z3,t2,t3,t5,t6,t7,t8,t20,t21,t30,t31]
      exact ⟨cl.length - (j+1),jb,j+1,k3,hv3,l3,bl3,rfl,jb,jb,rfl,rfl,by rw [e5];exact t29,rfl,hG3.next,hL4⟩
    ·have:j=cl.length:=jb
     subst this
     simp (disch:=try exact jz) only [go_sem,z3,t2,t3,t5,t6,t7,t20,t21]
     exact ⟨el.length - (i+1),jb,i+1,k3,hv3,l3,bl3,rfl,jb,jb,rfl,rfl,rfl,hG3.row,hL3⟩
  ·have hie:i=el.length:=jb
   simp (disch:=try exact jz) only [go_sem,z3,true_and]
   exact ⟨l,bl,t2,t3,t5,⟨hv,hie ▸ hG⟩,hL⟩
 ·rintro _ tm J' ⟨rfl,l,bl,t2,t3,t5,⟨hvf,hG⟩,hL⟩
  show bI EN (.seq _ _) _ _ _
  refine aeH (fun tm σ3=>∃ l bl,r8 tm 2 = .c (.ptr J.aj 0)∧r8 tm 5 = .c (.ptr (J.aj+1+1) 0)∧LGf el dl l∧LI J σ3 ev dv d0 d1 d2 (amt d2) l bl) ?_ ?_
  ·have q2:=hL.q2
   have hF:=hL.fr
   have b5:=hL.b
   have hn:=hL.n
   have aeJ:=Fb l bl
   have ZN:=rE l bl
   simp (disch:=try exact jz) only [go_sem,z3,t3,ay q2]
   refine aH (fun hr=>?_) (fun hr=>?_)
   ·by_cases hz:l.length=0
    ·simp (disch:=try exact jz) only [go_sem,z3,t5,ay b5,aeJ,ZN,hz,azt]
     refine aG (fun q tm σ3=>q=0∧σ3=J'∧r8 tm 2 = .c (.ptr J.aj 0)∧r8 tm 5 = .c (.ptr (J.aj+1+1) 0)∧r8 tm 12 = .c (.int .i64 (.ofNat 0))∧r8 tm 13 = .c (.int .i64 (.negSucc 0))) 0 ?_ ?_
     ·simp (disch:=try exact jz) only [go_sem,z3,true_and]
      exact ⟨t2,t5⟩
     ·rintro q tm σ3 ⟨rfl,rfl,t2,t5,t12,t13⟩
      simp (disch:=try exact jz) only [go_sem,z3,t2,t5,t12,t13,aBZ,true_and]
      exact ⟨l,bl,⟨hvf,hG⟩,hL⟩
    ·have h11:1≤l.length:=jb
     simp (disch:=try exact jz) only [go_sem,z3,t5,ay b5,aeJ,ZN]
     refine aG (fun q tm σ3=>∃ i j l3,q=l.length - i∧i≤l.length∧j<l.length∧l3.length=l.length∧r8 tm 2 = .c (.ptr J.aj 0)∧r8 tm 5 = .c (.ptr (J.aj+1+1) 0)∧r8 tm 12 = .c (.int .i64 (.ofNat i))∧r8 tm 13 = .c (.int .i64 (.ofNat j))∧WZ el dl el.length 0 hvf l3∧LI J σ3 ev dv d0 d1 d2 (amt d2) l3 bl) l.length ?_ ?_
     ·refine ⟨0,l.length - 1,l,jb,jb,jb,rfl,?_⟩
      simp (disch:=try exact jz) only [go_sem,z3,t2,t5,true_and]
      exact ⟨hG,hL⟩
     ·rintro q tm σ3 ⟨i,j,l3,rfl,hi,hj,hl3,t2,t5,t12,t13,hG3,hL3⟩
      simp (disch:=try exact jz) only [go_sem,z3,t12,t13,aC]
      refine aH (fun hij=>?_) (fun hij=>?_)
      ·have b5:=hL3.b
       have he:=jm (l:=l3) jb bl
       rw [he] at b5
       obtain ⟨k1,k2,k9⟩:=hL3.lb jb
       have hn3:=hL3.nx
       have hF3:=hL3.fr
       have hle:=hF3.le
       rw [hl3] at b5 k1
       have r1:=asO (n:=l.length) (i:=i) l3 jb
       have r2:=asO (n:=l.length) (i:=j) l3 hj
       have w1:=asM (n:=l.length) (i:=i) l3 hl3 (ix l3 j) jb
       have w2:=asM (n:=l.length) (i:=j) (l3.set i (ix l3 j)) (by simp [hl3]) (ix l3 i) hj
       simp (disch:=try exact jz) only [go_sem,z3,t2,t5,t12,t13,ay b5,ay k1,aJ k1,r1,r2,w1,w2]
       refine ⟨l.length - (i+1),jb,i+1,j - 1,(l3.set i (ix l3 j)).set j (ix l3 i),rfl,jb,jb,by simp [hl3],rfl,rfl,hG3.perm (swap_perm jb jb),hL3.set jb kc ?_ ?_ ?_⟩
       ·rw [aA,hl3]
       ·intro b9 h9
        rw [au _ _ _ _ h9,au _ _ _ _ h9]
       ·exact fr
      ·simp (disch:=try exact jz) only [go_sem,z3,t2,t5,true_and]
       exact ⟨l3,bl,⟨hvf,hG3⟩,hL3⟩
   ·simp (disch:=try exact jz) only [go_sem,z3,true_and]
    exact ⟨l,bl,t2,t5,⟨hvf,hG⟩,hL⟩
  ·rintro tm σ3 ⟨l,bl,t2,t5,hG,hL⟩
   have hF:=hL.fr
   have hle:=hL.fr.le
   have hn:=hL.nx
   have b5:=hL.b
   have q1:=hL.q1
   have ZN:=rE l bl
   obtain ⟨T,hT1,hT2⟩:=hD
   have hdl:=hl.1
   have hfin:=fun (h' : Tr Bk) (n' rb:Nat)=>aqh (h':=h') (n':=n') (rb:=rb) hW hT2 hT1 hL hG
   by_cases h0:dl.length=0
   ·have hA0:dv = .aQ∨∃ b o c,dv = .sl b o 0 c:=by
     rcases hT1 with ⟨-,e⟩|⟨b,o,c,e,-⟩
     ·exact .inl e
     ·exact .inr ⟨b,o,c,by rw [e,h0]⟩
    have hend : ∀ h' : Tr Bk,h' = hset (hset σ3.h σ3.aj ⟨[.bool (rn (amt d2)),.str (rs (amt d2)),.str (rd (amt d2)),mQ l bl],none⟩) (σ3.aj+1) ⟨[.bool (rn (amt d2)),.str (rs (amt d2)),.str (rd (amt d2)),mQ l bl],some (4,140)⟩→(∃ rv d,V.c (.sl (σ3.aj+1) 0 1 .opn) = .c rv∧jF (fun b=>p b∨J.aj≤b∧b<σ3.aj+1+1) h' rv (dl ++ [d])∧d.l.length≤4∧d.w=sO (amt d2)∧LGf el dl d.l)∧Fr J ⟨h',σ3.aj+1+1⟩:=fun h' e=>by
     subst e
     have:=hfin (hset (hset σ3.h σ3.aj ⟨[.bool (rn (amt d2)),.str (rs (amt d2)),.str (rd (amt d2)),mQ l bl],none⟩) (σ3.aj+1) ⟨[.bool (rn (amt d2)),.str (rs (amt d2)),.str (rd (amt d2)),mQ l bl],some (4,140)⟩) (σ3.aj+1+1) (σ3.aj+1) (by rw [aA,h0];rfl) (fun b9 h9=>by simp (disch:=omega) only [au]) jb jb (fr)
     rw [h0] at this
     exact this
    rcases hA0 with rfl|⟨b,o,c,rfl⟩
    ·simp (disch:=try exact jz) only [go_sem,z3,t2,t5,ay q1,ay b5,ZN]
     exact hend _ rfl
    ·simp (disch:=try exact jz) only [go_sem,z3,t2,t5,ay q1,ay b5,ZN]
     exact hend _ rfl
   ·obtain ⟨b,o,c,rfl,-,hld⟩:=hT1.pos jb
    have hbl:=hW.cZ (hld 0 jb)
    obtain ⟨kk,e1,e2,e3,e4,e5⟩:=Uz jb fun i hi=>hF.ld hW (hld i hi)
    have hct:=jC (e:=4) (n:=dl.length) (G:=fun i=>[B.bool (ix dl i).w.n,.str (ix dl i).w.s,.str (ix dl i).w.d,T i]) fun _=>rfl
    have hcn:dl.length*4≤(bf dl.length fun i=>[B.bool (ix dl i).w.n,.str (ix dl i).w.s,.str (ix dl i).w.d,T i]).length:=by rw [e4];exact jp
    simp (disch:=try exact jz) only [go_sem,z3,t2,t5,ay q1,ay b5,ZN,e1,e3,e4,e5,e2,hct]
    refine hfin _ _ _ ?_ ?_ jb jb ?_
    ·rw [aA,jA]
     congr 2
     refine bC fun j hj=>?_
     unfold je
     by_cases e:j=dl.length
     ·rw [if_pos e,if_neg jb]
     ·rw [if_neg e,if_pos jb]
    ·intro b9 h9
     simp (disch:=omega) only [au,fE]
    ·exact fr
end Go.Proofs.Xe
