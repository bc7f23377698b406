import Derived.Test.YthkggcakedkboaaGreatDoorYa26
set_option linter.all false
set_option maxRecDepth 100000
set_option maxHeartbeats 8000000
namespace Go.Proofs.Xe
open Go.RowKit Go.Proofs.Ins
def jT.lt{σ:St}(hW:WF σ){p:Nat->Prop}{v:B}{l:List uU}(hl:jT p σ.h v l):jT (Lt σ.aj) σ.h v l:=by obtain⟨L,h3,h4⟩:=hl;exact⟨L,h3.lt hW,λi hi=>(h4 i hi).lt hW⟩
theorem jT.fr{σ σ':St}(hW:WF σ)(hf:Fr σ σ'){p:Nat->Prop}{v:B}{l:List uU}(hl:jT p σ.h v l):jT (Lt σ.aj) σ'.h v l:=(hl.lt hW).keep hf.lt λ_ h=>h
def asA(dl:List uU)(i c:Int):Prop:=∀j,j<dl.length->∀t,t<(ix dl j).l.length->¬((ix (ix dl j).l t).e=i/\(ix (ix dl j).l t).k=c)
def av3(dl:List uU):Prop:=dl.length<=1000/\∀j,j<dl.length->(ix dl j).l.length<=1000
def anJ{σ:St}(hW:WF σ){p:Nat->Prop}{ev dv:B}(dl:List uU)(hD:jT p σ.h dv dl)(hl:av3 dl)(h1:ev.kn=true)(i c:Int):
  aC EN 51 [.agg [ev,dv],.c (.int .i64 i),.c (.int .i64 c)] σ λr σ'=>(∃b,r=.c (.bool b)/\(b=false->asA dl i c))/\Fr σ σ':=by
 refine aN (F9.o _ _) F9.h ?_
 unfold F9
 dsimp only
 obtain⟨T,hT,hT2⟩:=hD
 have hlen:=hT.len
 have hkn:=hT.kn
 simp(disch:=try exact jz) only[go_sem,z3,hkn,hlen,h1]
 refine aF (λq tm σ'=>∃j,q=dl.length-j/\j<=dl.length/\Tr.ah tm 1=.c (.int .i64 i)/\Tr.ah tm 2=.c (.int .i64 c)/\Tr.ah tm 12=.c dv/\Tr.ah tm 13=.c (.int .i64 (.ofNat dl.length))/\Tr.ah tm 14=.c (.int .i64 (.ofNat j))/\(∀j',j'<j->∀t,t<(ix dl j').l.length->¬((ix (ix dl j').l t).e=i/\(ix (ix dl j').l t).k=c))/\Fr σ σ') dl.length ?_ ?_
 .refine⟨0,jb,jb,?_⟩
  simp(disch:=try exact jz) only[go_sem,z3,am]
  exact⟨λj' h=>jb,fr⟩
 .rintro q tm σ' ⟨j,rfl,hj,t1,t2,t12,t13,t14,hN,hf⟩
  have hle:=hf.le
  have hl0:=hl.1
  simp(disch:=try exact jz) only[go_sem,z3,t1,t2,t12,t13,t14,aG]
  refine aH (λhlt=>?_) (λhlt=>?_)
  .obtain⟨b,o,cc,rfl,-,hld⟩:=hT.pos jb
   have hld:=hf.ld hW (hld j hlt)
   have hTj:=hT2 j hlt
   have hlj:=hl.2 j hlt
   generalize hag:ix dl j=ag at*
   have aiV:=hTj.len
   have ays:=hTj.kn
   simp(disch:=try exact jz) only[go_sem,z3,t1,t2,t12,t13,t14,hld,ays,aiV]
   refine aF (λq tm σ3=>∃t,q=ag.l.length-t/\t<=ag.l.length/\Tr.ah tm 1=.c (.int .i64 i)/\Tr.ah tm 2=.c (.int .i64 c)/\Tr.ah tm 12=.c (.sl b o dl.length cc)/\Tr.ah tm 13=.c (.int .i64 (.ofNat dl.length))/\Tr.ah tm 14=.c (.int .i64 (.ofNat j))
    /\Tr.ah tm 19=.c (T j)/\Tr.ah tm 20=.c (.int .i64 (.ofNat ag.l.length))/\Tr.ah tm 21=.c (.int .i64 (.ofNat t))/\(∀t',t'<t->¬((ix ag.l t').e=i/\(ix ag.l t').k=c))/\Fr σ σ3) ag.l.length ?_ ?_
   .refine⟨0,jb,jb,?_⟩
    simp(disch:=try exact jz) only[go_sem,z3,t1,t2,t12,t13,t14,am]
    exact⟨λt' h=>jb,fr⟩
   .rintro q tm3 σ3 ⟨t,rfl,ht,t1,t2,t12,t13,t14,t19,t20,t21,hM,hf3⟩
    have hle3:=hf3.le
    simp(disch:=try exact jz) only[go_sem,z3,t1,t2,t12,t13,t14,t19,t20,t21,aG]
    refine aH (λhlt3=>?_) (λhlt3=>?_)
    .obtain⟨b3,o3,c3,e3,-,pR⟩:=hTj.pos jb
     have pR:=hf3.ld hW (pR t hlt3)
     unfold Ll at pR
     rw[e3]at t19
     simp(disch:=try exact jz) only[go_sem,z3,t1,t2,t12,t13,t14,t19,t20,t21,pR]
     refine Uj (λhq=>?_) (λhq=>?_)
     .simp(disch:=try exact jz) only[go_sem,z3,t1,t2,t12,t13,t14,t19,t20,t21,hq]
      refine aH (λhq2=>?_) (λhq2=>?_)
      .simp(disch:=try exact jz) only[go_sem,z3,t1]
       exact⟨⟨_,rfl,λh=>by cases h⟩,fr⟩
      .simp(disch:=try exact jz) only[go_sem,z3,t1,t2,t12,t13,t14,t19,t20,t21]
       exact⟨ag.l.length-(t+1),jb,t+1,rfl,jb,by rw[e3],rfl,λt' h'=>by
        by_cases e:t'=t
        .rw[e];exact λh=>hq2 h.2
        .exact hM t' jb,fr⟩
     .simp(disch:=try exact jz) only[go_sem,z3,t1,t2,t12,t13,t14,t19,t20,t21,hq]
      exact⟨ag.l.length-(t+1),jb,t+1,rfl,jb,by rw[e3],rfl,λt' h'=>by
       by_cases e:t'=t
       .rw[e];exact λh=>hq h.1
       .exact hM t' jb,fr⟩
    .have:t=ag.l.length:=jb
     subst this
     simp(disch:=try exact jz) only[go_sem,z3,t1,t2,t12,t13,t14]
     exact⟨dl.length-(j+1),jb,j+1,rfl,jb,rfl,λj' h'=>by
      by_cases e:j'=j
      .rw[e,hag];exact hM
      .exact hN j' jb,hf3⟩
  .have:j=dl.length:=jb
   subst this
   simp(disch:=try exact jz) only[go_sem,z3,t1]
   exact⟨⟨_,rfl,λ_=>hN⟩,hf⟩
structure LI(σ σ':St)(ev dv:B)(d0 d1 d2:Nat)(w:Rat)(l:List Ins.Lg)(bl:Nat):Prop where
 q1:σ'.h σ.aj=some ⟨[ev,dv],none⟩
 q2:σ'.h (σ.aj+1)=some ⟨[.int .u16 (.ofNat d0),.int .u16 (.ofNat d1),.int .u16 (.ofNat d2)],none⟩
 b:σ'.h (σ.aj+1+1)=some ⟨[.bool (rn w),.str (rs w),.str (rd w),lK l bl],none⟩
 lb:0<l.length->σ'.h bl=some ⟨bH l.length (λk=>Ll (ix l k)),some (2,68)⟩/\σ.aj+1+1+1<=bl/\bl<σ'.aj
 n:l.length<=4
 nx:σ.aj+1+1+1<=σ'.aj
 fr:Fr σ σ'
structure Vk(el:List zJ)(dl:List uU)(i j:Nat)(hv:Int)(l:List Ins.Lg):Prop where
 r:∀x∈l,∃e k:Nat,x=⟨.ofNat e,.ofNat k⟩/\e<el.length/\k<(ix el e).c.length/\asA dl (.ofNat e) (.ofNat k)/\holdL el x=hv/\(e<i\/e=i/\k<j)
 nd:l.Nodup
def LGf(el:List zJ)(dl:List uU)(l:List Ins.Lg):Prop:=∃hv,Vk el dl el.length 0 hv l
section
variable {el:List zJ} {dl:List uU} {i j:Nat} {hv hv' : Int} {l:List Ins.Lg}
theorem Vk.nil:Vk el dl i j hv []:=⟨λx hx=>by simp at hx,List.nodup_nil⟩
def Vk.next(h:Vk el dl i j hv l):Vk el dl i (j+1) hv l:=⟨λx hx=>by obtain⟨e,k,h1,h2,h3,h4,h5,h6⟩:=h.r x hx;exact⟨e,k,h1,h2,h3,h4,h5,jb⟩,h.nd⟩
def Vk.row(h:Vk el dl i j hv l):Vk el dl (i+1) 0 hv l:=⟨λx hx=>by obtain⟨e,k,h1,h2,h3,h4,h5,h6⟩:=h.r x hx;exact⟨e,k,h1,h2,h3,h4,h5,jb⟩,h.nd⟩
def Vk.push(h:Vk el dl i j hv l)(hi:i<el.length){cl:List C5}(he:(ix el i).c=cl)(hj:j<cl.length)(hN:asA dl (.ofNat i) (.ofNat j))(hh:l=[]\/hv=hv')(hx:(ix cl j).h=hv'):Vk el dl i (j+1) hv' (l++[⟨.ofNat i,.ofNat j⟩]):=by
 refine⟨λx hm=>?_,?_⟩
 .rcases bP.mp hm with hm|hm
  .obtain⟨e,k,h1,h2,h3,h4,h5,h6⟩:=h.r x hm;rcases hh with hh|hh
   .rw[hh]at hm;cases hm
   .exact⟨e,k,h1,h2,h3,h4,by rw[h5,hh],jb⟩
  .rw[dc]at hm;subst hm;refine⟨i,j,rfl,hi,by rw[he];exact hj,hN,?_,jb⟩;show(ix (ix el i).c j).h=_;rw[he];exact hx
 .rw[eZ];refine⟨h.nd,(gb.mpr ⟨List.not_mem_nil,List.nodup_nil⟩),λa ha b hb e=>?_⟩;rw[dc]at hb;subst hb;obtain⟨e',k,h1,-,-,-,-,h6⟩:=h.r a ha;rw[e]at h1;have h7:=(Ins.Lg.mk.inj h1).1;have h8:=(Ins.Lg.mk.inj h1).2;have h7:=io h7;have h8:=io h8;omega
def Vk.perm{l':List Ins.Lg}(h:Vk el dl i j hv l)(hp:l'.Perm l):Vk el dl i j hv l':=⟨λx hx=>h.r x (hp.mem_iff.mp hx),hp.nodup_iff.mpr h.nd⟩
def swap_perm{l:List Ins.Lg}{i j:Nat}(hi:i<l.length)(hj:j<l.length):((l.set i (ix l j)).set j (ix l i)).Perm l:=by rw[dV hi,dV hj];exact List.set_set_perm hi hj
end
section
variable {σ σ' : St} {ev dv:B} {d0 d1 d2:Nat} {w:Rat} {l:List Ins.Lg} {bl:Nat}
def LI.step(hL:LI σ σ' ev dv d0 d1 d2 w l bl){σ3:St}(hf:Fr σ' σ3):LI σ σ3 ev dv d0 d1 d2 w l bl:=by
 have hn:=hL.nx;have hle:=hf.le;refine⟨?_,?_,?_,λh0=>?_,hL.n,jb,hL.fr.trans hf⟩
 .rw[hf.old _ jb];exact hL.q1
 .rw[hf.old _ jb];exact hL.q2
 .rw[hf.old _ jb];exact hL.b
 .obtain⟨k1,k2,k3⟩:=hL.lb h0;exact⟨by rw[hf.old _ k3];exact k1,k2,jb⟩
def LI.push(hL:LI σ σ' ev dv d0 d1 d2 w l bl){nx n':Nat}{x:Ins.Lg}{h':Tr Bk}(hl:l.length<=3)(hb:h' (σ.aj+1+1)=some ⟨[.bool (rn w),.str (rs w),.str (rd w),.sl nx 0 (l.length+1) .opn],none⟩)
  (hx:h' nx=some ⟨bH l.length (λk=>Ll (ix l k))++Ll x,some (2,68)⟩) (ho:∀b,b<σ.aj+1+1->h' b=σ'.h b) (hn:σ'.aj<=nx) (hn':nx<n') (hf:Fr σ ⟨h',n'⟩):LI σ ⟨h',n'⟩ ev dv d0 d1 d2 w (l++[x]) nx:=by
 have hn1:=hL.nx
 refine⟨by rw[ho _ jb];exact hL.q1,by rw[ho _ jb];exact hL.q2,?_,λ_=>⟨?_,jb,hn'⟩,by simp;omega,by show _<=n';omega,hf⟩
 .rw[jd kc,aD];exact hb
 .rw[aD,bL]
  show h' nx=_
  rw[hx,kY]
  congr 2
  refine bY λk hk=>?_
  unfold ji
  split
  .next e=>rw[e,gy]
  .rw[gu _ _ jb]
def LI.set(hL:LI σ σ' ev dv d0 d1 d2 w l bl){h':Tr Bk}{l':List Ins.Lg}(h0:0<l.length)(hl:l'.length=l.length)(hb:h' bl=some ⟨bH l.length (λk=>Ll (ix l' k)),some (2,68)⟩)(ho:∀b,b≠bl->h' b=σ'.h b)(hf:Fr σ ⟨h',σ'.aj⟩):LI σ ⟨h',σ'.aj⟩ ev dv d0 d1 d2 w l' bl:=by have hn1:=hL.nx;obtain⟨k1,k2,k3⟩:=hL.lb h0;refine⟨by rw[ho _ jb];exact hL.q1,by rw[ho _ jb];exact hL.q2,?_,λ_=>⟨by rw[hl];exact hb,k2,k3⟩,by rw[hl];exact hL.n,hL.nx,hf⟩;rw[ho _ jb,hL.b];unfold lK;rw[hl]
def asB(l:List Ins.Lg):l.length*2<=(bH l.length (λk=>Ll (ix l k))).length:=by rw[oQ (e:=2) λ_=>rfl];exact jp
def anK(l:List Ins.Lg):(bH l.length (λk=>Ll (ix l k))).take (l.length*2)=bH l.length (λk=>Ll (ix l k)):=xR λ_=>rfl
def apC{n i:Nat}(l:List Ins.Lg)(hn:l.length=n)(y:Ins.Lg)(hi:i<n):yw (bH n λk=>Ll (ix l k)) (i*2) [.int .i64 y.e,.int .i64 y.k]=some (bH n λk=>Ll (ix (l.set i y) k)):=by
 have:=Au (e:=2) (k:=0) (vs:=Ll y) (G:=λk=>Ll (ix l k)) (λ_=>rfl) hi (by exact cL 2);rw[cD]at this;show yw _ _ (Ll y)=_;rw[this];show some _=some _;congr 1;refine bY λk hk=>?_;unfold ji;rw[show ix (l.set i y) k=if k=i then y else ix l k by
  unfold ix;rw[eN,eN,List.getElem?_set];by_cases e:k=i
  .subst e;rw[ab rfl,ab rfl,ab jb];rfl
  .rw[ae e,ae (Ne.symm e)]]
 split<;>rfl
def apD{n i:Nat}(l:List Ins.Lg)(hi:i<n):zI (bH n λk=>Ll (ix l k)) (i*2) 2 true=some (.agg [.int .i64 (ix l i).e,.int .i64 (ix l i).k]):=by have:=yT (e:=2) (k:=0) (m:=2) (G:=λk=>Ll (ix l k)) true (λ_=>rfl) hi jj jj;rw[cD]at this;rw[this];rfl
end
def CY.at{p:Nat->Prop}{h:Tr Bk}{v:B}{el:List zJ}(hE:CY p h v el){i:Nat}(hi:i<el.length):∃b o c,v=.sl b o el.length c/\∃C A:B,ld h b (o+i*5) 5 true=some (.agg [.bool (ix el i).m.n,.str (ix el i).m.s,.str (ix el i).m.d,C,A])/\ld h b (o+i*5+3) 1 false=some (.c C)/\oU p h C (ix el i).c/\iW p h A (ix el i).a:=by obtain⟨C,A,h1,h2⟩:=hE;obtain⟨b,o,c,e,-,hld⟩:=h1.pos jb;refine⟨b,o,c,e,C i,A i,hld i hi,?_,h2 i hi⟩;rw[og (hld i hi) 3 1 false jj jj];unfold zI;have:=(h2 i hi).1.kn;simp[this]
def CY.len{p:Nat->Prop}{h:Tr Bk}{v:B}{l:List zJ}(hl:CY p h v l):lenV (.c v)=some (.c (.int .i64 (.ofNat l.length))):=hl.choose_spec.choose_spec.1.len
def jT.el{p:Nat->Prop}{h:Tr Bk}{v:B}{dl:List uU}(hD:jT p h v dl){i:Nat}(hi:i<dl.length):∃b o c,v=.sl b o dl.length c/\∃T:B,ld h b (o+i*4) 4 true=some (.agg [.bool (ix dl i).w.n,.str (ix dl i).w.s,.str (ix dl i).w.d,T])/\CX p h T (ix dl i).l:=by obtain⟨L,h1,h2⟩:=hD;obtain⟨b,o,c,e,-,hld⟩:=h1.pos jb;exact⟨b,o,c,e,L i,hld i hi,h2 i hi⟩
def jT.len{p:Nat->Prop}{h:Tr Bk}{v:B}{dl:List uU}(hD:jT p h v dl):lenV (.c v)=some (.c (.int .i64 (.ofNat dl.length))):=hD.choose_spec.1.len
def av4:oL .sub (.c (.int .i64 (.ofNat 0))) (.c (.int .i64 (.ofNat 1)))=some (.c (.int .i64 (.negSucc 0))):=rfl
def ayt:decide (Int.ofNat 0<Int.negSucc 0)=false:=rfl
def anL{σ σ':St}{ev dv:B}{d0 d1 d2:Nat}{w:Rat}{l:List Ins.Lg}{bl:Nat}{dl:List uU}(hW:WF σ){p:Nat->Prop}{T:Nat->B}(hT2:∀j,j<dl.length->CX p σ.h (T j) (ix dl j).l)(hT1:aY p σ.h 4 dv dl.length (λi=>[.bool (ix dl i).w.n,.str (ix dl i).w.s,.str (ix dl i).w.d,T i]))(hL:LI σ σ' ev dv d0 d1 d2 w l bl){el:List zJ}(hG:LGf el dl l)
  {h':Tr Bk}{n' rb:Nat}(hr:h' rb=some ⟨bH (dl.length+1) (λj=>if j<dl.length then [.bool (ix dl j).w.n,.str (ix dl j).w.s,.str (ix dl j).w.d,T j]else [.bool (rn w),.str (rs w),.str (rd w),lK l bl]),some (4,66)⟩) (ho:∀b,b<σ'.aj->h' b=σ'.h b) (hrb:σ'.aj<=rb) (hn:rb<n') (hf:Fr σ ⟨h',n'⟩):
  (∃rv d,V.c (.sl rb 0 (dl.length+1) .opn)=.c rv/\jT (λb=>p b\/σ.aj<=b/\b<n') h' rv (dl++[d])/\d.l.length<=4/\d.w=vS w/\LGf el dl d.l)/\Fr σ ⟨h',n'⟩:=by
 have hle:=hL.fr.le
 have hn1:=hL.nx
 refine⟨⟨_,⟨vS w,l⟩,rfl,⟨λj=>if j<dl.length then T j else lK l bl,?_,λj hj=>?_⟩,hL.n,rfl,hG⟩,hf⟩
 .have:(dl++[(⟨vS w,l⟩:uU)]).length=dl.length+1:=by simp
  rw[this]
  have JH:∀j,j<dl.length->(T j).kn=true:=λj hj=>(hT2 j hj).kn
  refine(bD (p:=λb=>p b\/σ.aj<=b/\b<n') _ hr rfl (.inr ⟨jb,hn⟩) (λj=>?_) jj λj hj=>?_).congr λj hj=>?_
  .split<;>rfl
  .split
   .next e=>simp only[cO,eo,JH j e,Ar,FY,dy]
   .simp only[cO,eo,rE,Ar,FY,dy]
  .dsimp only
   split
   .next e=>rw[gu _ _ e]
   .next e=>
    obtain rfl:j=dl.length:=jb
    rw[gy];rfl
 .have hj':j<dl.length+1:=by simpa using hj
  dsimp only
  by_cases e:j<dl.length
  .rw[ab e,gu _ _ e]
   refine(aY.plt hW (hT2 j e)).keep (λb hb=>?_) λb hb=>.inl hb.1
   rw[ho b jb,hL.fr.old b hb.2]
  .rw[ae e]
   obtain rfl:j=dl.length:=jb
   rw[gy]
   by_cases h0:l.length=0
   .exact .inl ⟨h0,by unfold lK;rw[ab h0]⟩
   .obtain⟨k1,k2,k3⟩:=hL.lb jb
    rw[jd jb]
    exact bD (p:=λb=>p b\/σ.aj<=b/\b<n') _ (by rw[ho _ k3];exact k1) rfl (.inr ⟨jb,jb⟩) (λ_=>rfl) jj λ_ _=>rfl
def av5{σ:St}(hW:WF σ){p p':Nat->Prop}{ev dv:B}(el:List zJ)(dl:List uU)(hE:CY p' σ.h ev el)(hD:jT p σ.h dv dl)(hl:av3 dl)(hel:el.length<=1000)(hcl:∀i,i<el.length->(ix el i).c.length<=1000)
  (d0 d1 d2:Nat) (b0:d0<=65535) (b1:d1<=65535) (b2:d2<=65535):
  aC EN 29 [.agg [ev,dv],.agg [.int .u16 (.ofNat d0),.int .u16 (.ofNat d1),.int .u16 (.ofNat d2)]] σ λr σ'=>(∃rv d,r=.c rv/\jT (λb=>p b\/σ.aj<=b/\b<σ'.aj) σ'.h rv (dl++[d])/\d.l.length<=4/\d.w=vS (amt d2)/\LGf el dl d.l)/\Fr σ σ':=by
 refine aN (N9.o _ _) N9.h ?_
 unfold N9
 dsimp only
 have hek:=hE.kn
 have hdk:=hD.kn
 have hlenE:=hE.len
 simp(disch:=try exact jz) only[go_sem,z3,hek,hdk,hlenE]
 refine bI.mono (Q:=λe tm σ'=>e=.exit 0/\∃l bl,Tr.ah tm 2=.c (.ptr σ.aj 0)/\Tr.ah tm 3=.c (.ptr (σ.aj+1) 0)/\Tr.ah tm 5=.c (.ptr (σ.aj+1+1) 0)/\LGf el dl l/\LI σ σ' ev dv d0 d1 d2 (amt d2) l bl)
  (aF (λq tm σ'=>∃i k hv l bl,q=el.length-i/\i<=el.length/\k<=i*1000/\Tr.ah tm 2=.c (.ptr σ.aj 0)/\Tr.ah tm 3=.c (.ptr (σ.aj+1) 0)/\Tr.ah tm 5=.c (.ptr (σ.aj+1+1) 0)/\Tr.ah tm 6=.c (.int .i64 (.ofNat k))/\Tr.ah tm 7=.c (.int .i64 hv)/\Tr.ah tm 20=.c (.int .i64 (.ofNat el.length))/\Tr.ah tm 21=.c (.int .i64 (.ofNat i))
   /\Vk el dl i 0 hv l/\LI σ σ' ev dv d0 d1 d2 (amt d2) l bl) el.length ?_ ?_) ?_
 .refine⟨0,0,0,[],0,jb,jb,jb,?_⟩
  simp(disch:=try exact jz) only[go_sem,z3,am]
  refine⟨rfl,Vk.nil,?_,?_,?_,λh=>by simp at h,bz _,jp,?_⟩
  .simp(disch:=omega) only[au,aA]
  .simp(disch:=omega) only[au,aA]
  .rw[aA];rfl
  .exact fr
 .rintro q tm σ' ⟨i,k,hv,l,bl,rfl,hi,hk,t2,t3,t5,t6,t7,t20,t21,hG,hL⟩
  simp(disch:=try exact jz) only[go_sem,z3,t2,t3,t5,t6,t7,t20,t21,aG]
  refine aH (λhlt=>?_) (λhlt=>?_)
  .obtain⟨b,o,c,rfl,C,A,OG,pR,hC,-⟩:=hE.at hlt
   have pR:=hL.fr.ld hW pR
   have azU:=hcl i hlt
   generalize hei:(ix el i).c=cl at*
   have Yg:=hC.len
   have azV:=hC.kn
   have q1:=hL.q1
   have q2:=hL.q2
   simp(disch:=try exact jz) only[go_sem,z3,t2,t3,t5,t6,t7,t20,t21,ak q1,hek,hdk,pR,Yg]
   refine aF (λq tm σ3=>∃j k hv l bl,q=cl.length-j/\j<=cl.length/\k<=i*1000+j/\Tr.ah tm 2=.c (.ptr σ.aj 0)/\Tr.ah tm 3=.c (.ptr (σ.aj+1) 0)/\Tr.ah tm 5=.c (.ptr (σ.aj+1+1) 0)/\Tr.ah tm 6=.c (.int .i64 (.ofNat k))/\Tr.ah tm 7=.c (.int .i64 hv)/\Tr.ah tm 8=.c (.int .i64 (.ofNat i))/\Tr.ah tm 20=.c (.int .i64 (.ofNat el.length))/\Tr.ah tm 21=.c (.int .i64 (.ofNat i))
    /\Tr.ah tm 29=.c C/\Tr.ah tm 30=.c (.int .i64 (.ofNat cl.length))/\Tr.ah tm 31=.c (.int .i64 (.ofNat j))/\Vk el dl i j hv l/\LI σ σ3 (.sl b o el.length c) dv d0 d1 d2 (amt d2) l bl) cl.length ?_ ?_
   .refine⟨0,k,hv,l,bl,jb,jb,jb,?_⟩
    simp(disch:=try exact jz) only[go_sem,z3,t2,t3,t5,t6,t7,t20,t21,am]
    exact⟨hG,hL⟩
   .rintro q tm3 σ3 ⟨j,k3,hv3,l3,bl3,rfl,hj,hk3,t2,t3,t5,t6,t7,t8,t20,t21,t29,t30,t31,hG3,hL3⟩
    simp(disch:=try exact jz) only[go_sem,z3,t2,t3,t5,t6,t7,t8,t20,t21,t29,t30,t31,aG]
    refine aH (λhlt3=>?_) (λhlt3=>?_)
    .obtain⟨b5,o5,c5,e5,-,bF⟩:=hC.pos jb
     have bF:=hL3.fr.ld hW (bF j hlt3)
     unfold Uy at bF
     have q1:=hL3.q1
     have q2:=hL3.q2
     have hn3:=hL3.nx
     have hle3:=hL3.fr.le
     rw[e5]at t29
     simp(disch:=try exact jz) only[go_sem,z3,t2,t3,t5,t6,t7,t8,t20,t21,t29,t30,t31,bF,ak q1,hek,hdk]
     refine aC.st (Fr σ3) (by have hF:=Fr.refl hL3.fr.wf;exact fr) λhF3=>?_
     refine(anJ hF3.wf dl ((hD.fr hW hL3.fr).fr hL3.fr.wf hF3) hl hek (.ofNat i) (.ofNat j)).mono ?_
     rintro _ σ4 ⟨⟨fb,rfl,hNT⟩,hf4⟩
     have ni:=hF3.trans hf4
     have hL4:=hL3.step ni
     have uO:=ni.le
     have hn4:=hL4.nx
     have b4:=hL4.b
     have q2:=hL4.q2
     have hll:=hL4.n
     have ada:=IK l3 bl3
     have Yh:=rE l3 bl3
     have htb:σ4.h σ3.aj=some ⟨[.int .i64 (ix cl j).h,.int .i64 (ix cl j).r,.bool (ix cl j).a.n,.str (ix cl j).a.s,.str (ix cl j).a.d],none⟩:=hf4.get hF3.wf (aA _ _ _)
     have hr0:=yC d0 (2^min (k3%16) 64) 9223372036854775807 jb
     have hk5:k3<=2000000:=by have:=bw 1000 (show i<=1000 by omega);omega
     have azW:k3%16<16:=dj _ jj
     cases fb
     .simp(disch:=try exact jz) only[go_sem,z3,t2,t3,t5,t6,t7,t8,t20,t21,t30,t31,ak b4,ada,Yh]
      refine aH (λhl4=>?_) (λhl4=>?_)
      .simp(disch:=try exact jz) only[go_sem,z3,t2,t3,t5,t6,t7,t8,t20,t21,t30,t31]
       exact⟨cl.length-(j+1),jb,j+1,k3,hv3,l3,bl3,rfl,jb,jb,rfl,rfl,by rw[e5];exact t29,rfl,hG3.next,hL4⟩
      .simp(disch:=try exact jz) only[go_sem,z3,t2,t3,t5,t6,t7,t8,t20,t21,t30,t31,ak q2]
       have afA:=hL4.fr
       have hl5:l3.length<=3:=by have h9:¬((4:Nat):Int)<=(l3.length:Int):=hl4;omega
       have av6:σ3.aj<=σ4.aj:=ni.le
       refine Uj (λhw=>?_) (λhw=>?_)
       .by_cases hz:l3.length=0
        .have he:lK l3 bl3=.aX:=by unfold lK;rw[ab hz]
         simp(disch:=try exact jz) only[go_sem,z3,t2,t3,t5,t6,t7,t8,t20,t21,t30,t31,hw,ak b4,b4,he,ak htb]
         refine⟨cl.length-(j+1),jb,j+1,k3+1,_,l3++[⟨.ofNat i,.ofNat j⟩],_,rfl,jb,jb,rfl,rfl,by rw[e5];exact t29,rfl,hG3.push hlt hei hlt3 (hNT rfl) (.inl (eg hz)) rfl,LI.push (nx:=σ4.aj+1) hL4 jb ?_ ?_ ?_ ?_ ?_ ?_⟩
         .rw[aA,hz]
         .rw[au _ _ _ _ jb,aA,hz];rfl
         .intro b9 h9;simp(disch:=omega) only[au]
         .omega
         .omega
         .exact fr
        .have he:=jd (l:=l3) jb bl3
         obtain⟨k1,k2,k9⟩:=hL4.lb jb
         have hpl:=asB l3
         have hpt:=anK l3
         have hz2:¬(0=l3.length):=jb
         simp(disch:=try exact jz) only[go_sem,z3,t2,t3,t5,t6,t7,t8,t20,t21,t30,t31,hw,ak b4,b4,he,ak htb,hz,k1,hpt]
         refine aH (λhh=>?_) (λhh=>?_)
         .simp(disch:=try exact jz) only[go_sem,z3,t2,t3,t5,t6,t7,t8,t20,t21,t30,t31,hw,ak b4,b4,he,ak htb,hz,k1,hpt]
          refine⟨cl.length-(j+1),jb,j+1,k3+1,_,l3++[⟨.ofNat i,.ofNat j⟩],_,rfl,jb,jb,rfl,rfl,by rw[e5];exact t29,rfl,hG3.push hlt hei hlt3 (hNT rfl) (.inr (by first|exact hh|exact hh.symm)) rfl,LI.push (nx:=σ4.aj+1) hL4 jb ?_ ?_ ?_ ?_ ?_ ?_⟩
          .rw[aA]
          .rw[au _ _ _ _ jb,aA];rfl
          .intro b9 h9;simp(disch:=omega) only[au,iG]
          .omega
          .omega
          .exact fr
         .simp(disch:=try exact jz) only[go_sem,z3,t2,t3,t5,t6,t7,t8,t20,t21,t30,t31,hw]
          exact⟨cl.length-(j+1),jb,j+1,k3+1,hv3,l3,bl3,rfl,jb,jb,rfl,rfl,by rw[e5];exact t29,rfl,hG3.next,hL4⟩
       .simp(disch:=try exact jz) only[go_sem,z3,t2,t3,t5,t6,t7,t8,t20,t21,t30,t31,hw]
        exact⟨cl.length-(j+1),jb,j+1,k3+1,hv3,l3,bl3,rfl,jb,jb,rfl,rfl,by rw[e5];exact t29,rfl,hG3.next,hL4⟩
     .simp(disch:=try exact jz) only[go_sem,z3,t2,t3,t5,t6,t7,t8,t20,t21,t30,t31]
      exact⟨cl.length-(j+1),jb,j+1,k3,hv3,l3,bl3,rfl,jb,jb,rfl,rfl,by rw[e5];exact t29,rfl,hG3.next,hL4⟩
    .have:j=cl.length:=jb
     subst this
     simp(disch:=try exact jz) only[go_sem,z3,t2,t3,t5,t6,t7,t8,t20,t21,t29,t30,t31]
     exact⟨el.length-(i+1),jb,i+1,k3,hv3,l3,bl3,rfl,jb,jb,rfl,rfl,rfl,hG3.row,hL3⟩
  .have hie:i=el.length:=jb
   simp(disch:=try exact jz) only[go_sem,z3,am]
   exact⟨l,bl,t2,t3,t5,⟨hv,hie▸hG⟩,hL⟩
 .rintro _ tm σ' ⟨rfl,l,bl,t2,t3,t5,⟨hvf,hG⟩,hL⟩
  show bI EN (.seq _ _) _ _ _
  refine ac4 (λtm σ3=>∃l bl,Tr.ah tm 2=.c (.ptr σ.aj 0)/\Tr.ah tm 5=.c (.ptr (σ.aj+1+1) 0)/\LGf el dl l/\LI σ σ3 ev dv d0 d1 d2 (amt d2) l bl) ?_ ?_
  .have q2:=hL.q2
   have hF:=hL.fr
   have b5:=hL.b
   have hn:=hL.n
   have ada:=IK l bl
   have Yh:=rE l bl
   simp(disch:=try exact jz) only[go_sem,z3,t2,t3,t5,ak q2]
   refine aH (λhr=>?_) (λhr=>?_)
   .by_cases hz:l.length=0
    .simp(disch:=try exact jz) only[go_sem,z3,t2,t3,t5,ak b5,ada,Yh,hz,av4]
     refine aF (λq tm σ3=>q=0/\σ3=σ'/\Tr.ah tm 2=.c (.ptr σ.aj 0)/\Tr.ah tm 5=.c (.ptr (σ.aj+1+1) 0)/\Tr.ah tm 12=.c (.int .i64 (.ofNat 0))/\Tr.ah tm 13=.c (.int .i64 (.negSucc 0))) 0 ?_ ?_
     .simp(disch:=try exact jz) only[go_sem,z3,am]
      exact⟨t2,t5⟩
     .rintro q tm σ3 ⟨rfl,rfl,t2,t5,t12,t13⟩
      simp(disch:=try exact jz) only[go_sem,z3,t2,t5,t12,t13,ayt,am]
      exact⟨l,bl,⟨hvf,hG⟩,hL⟩
    .have h11:1<=l.length:=jb
     simp(disch:=try exact jz) only[go_sem,z3,t2,t3,t5,ak b5,ada,Yh]
     refine aF (λq tm σ3=>∃i j l3,q=l.length-i/\i<=l.length/\j<l.length/\l3.length=l.length/\Tr.ah tm 2=.c (.ptr σ.aj 0)/\Tr.ah tm 5=.c (.ptr (σ.aj+1+1) 0)/\Tr.ah tm 12=.c (.int .i64 (.ofNat i))/\Tr.ah tm 13=.c (.int .i64 (.ofNat j))/\Vk el dl el.length 0 hvf l3/\LI σ σ3 ev dv d0 d1 d2 (amt d2) l3 bl) l.length ?_ ?_
     .refine⟨0,l.length-1,l,jb,jb,jb,rfl,?_⟩
      simp(disch:=try exact jz) only[go_sem,z3,t2,t5,am]
      exact⟨hG,hL⟩
     .rintro q tm σ3 ⟨i,j,l3,rfl,hi,hj,hl3,t2,t5,t12,t13,hG3,hL3⟩
      simp(disch:=try exact jz) only[go_sem,z3,t2,t5,t12,t13,aG]
      refine aH (λhij=>?_) (λhij=>?_)
      .have b5:=hL3.b
       have he:=jd (l:=l3) jb bl
       rw[he]at b5
       obtain⟨k1,k2,k9⟩:=hL3.lb jb
       have hn3:=hL3.nx
       have hF3:=hL3.fr
       have hle:=hF3.le
       rw[hl3]at b5 k1
       have r1:=apD (n:=l.length) (i:=i) l3 jb
       have r2:=apD (n:=l.length) (i:=j) l3 hj
       have w1:=apC (n:=l.length) (i:=i) l3 hl3 (ix l3 j) jb
       have w2:=apC (n:=l.length) (i:=j) (l3.set i (ix l3 j)) (by simp[hl3]) (ix l3 i) hj
       simp(disch:=try exact jz) only[go_sem,z3,t2,t5,t12,t13,ak b5,ak k1,aJ k1,r1,r2,w1,w2]
       refine⟨l.length-(i+1),jb,i+1,j-1,(l3.set i (ix l3 j)).set j (ix l3 i),rfl,jb,jb,by simp[hl3],rfl,rfl,hG3.perm (swap_perm jb jb),hL3.set jb kc ?_ ?_ ?_⟩
       .rw[aA,hl3]
       .intro b9 h9
        rw[au _ _ _ _ h9,au _ _ _ _ h9]
       .exact fr
      .simp(disch:=try exact jz) only[go_sem,z3,t2,t5,t12,t13,am]
       exact⟨l3,bl,⟨hvf,hG3⟩,hL3⟩
   .simp(disch:=try exact jz) only[go_sem,z3,am]
    exact⟨l,bl,t2,t5,⟨hvf,hG⟩,hL⟩
  .rintro tm σ3 ⟨l,bl,t2,t5,hG,hL⟩
   have hF:=hL.fr
   have hle:=hL.fr.le
   have hn:=hL.nx
   have b5:=hL.b
   have q1:=hL.q1
   have Yh:=rE l bl
   obtain⟨T,hT1,hT2⟩:=hD
   have hdl:=hl.1
   have hfin:=λ(h':Tr Bk) (n' rb:Nat)=>anL (h':=h') (n':=n') (rb:=rb) hW hT2 hT1 hL hG
   by_cases h0:dl.length=0
   .have hA0:dv=.aX\/∃b o c,dv=.sl b o 0 c:=by
     rcases hT1 with⟨-,e⟩|⟨b,o,c,e,-⟩
     .exact .inl e
     .exact .inr ⟨b,o,c,by rw[e,h0]⟩
    have hend:∀h':Tr Bk,h'=hset (hset σ3.h σ3.aj ⟨[.bool (rn (amt d2)),.str (rs (amt d2)),.str (rd (amt d2)),lK l bl],none⟩) (σ3.aj+1) ⟨[.bool (rn (amt d2)),.str (rs (amt d2)),.str (rd (amt d2)),lK l bl],some (4,66)⟩->(∃rv d,V.c (.sl (σ3.aj+1) 0 1 .opn)=.c rv/\jT (λb=>p b\/σ.aj<=b/\b<σ3.aj+1+1) h' rv (dl++[d])/\d.l.length<=4/\d.w=vS (amt d2)/\LGf el dl d.l)/\Fr σ ⟨h',σ3.aj+1+1⟩:=λh' e=>by subst e;have:=hfin (hset (hset σ3.h σ3.aj ⟨[.bool (rn (amt d2)),.str (rs (amt d2)),.str (rd (amt d2)),lK l bl],none⟩) (σ3.aj+1) ⟨[.bool (rn (amt d2)),.str (rs (amt d2)),.str (rd (amt d2)),lK l bl],some (4,66)⟩) (σ3.aj+1+1) (σ3.aj+1) (by rw[aA,h0];rfl) (λb9 h9=>by simp(disch:=omega) only[au]) jb jb (fr);rw[h0]at this;exact this
    rcases hA0 with rfl|⟨b,o,c,rfl⟩
    .simp(disch:=try exact jz) only[go_sem,z3,t2,t5,ak q1,ak b5,hek,Yh]
     exact hend _ rfl
    .simp(disch:=try exact jz) only[go_sem,z3,t2,t5,ak q1,ak b5,hek,Yh]
     exact hend _ rfl
   .obtain⟨b,o,c,rfl,-,hld⟩:=hT1.pos jb
    have hbl:=hW.bV (hld 0 jb)
    obtain⟨kk,e1,e2,e3,e4,e5⟩:=QY jb λi hi=>hF.ld hW (hld i hi)
    have hct:=xR (e:=4) (n:=dl.length) (G:=λi=>[B.bool (ix dl i).w.n,.str (ix dl i).w.s,.str (ix dl i).w.d,T i]) λ_=>rfl
    have hcn:dl.length*4<=(bH dl.length λi=>[B.bool (ix dl i).w.n,.str (ix dl i).w.s,.str (ix dl i).w.d,T i]).length:=by rw[e4];exact jp
    simp(disch:=try exact jz) only[go_sem,z3,t2,t5,ak q1,ak b5,hek,Yh,e1,e3,e4,e5,e2,hct]
    refine hfin _ _ _ ?_ ?_ jb jb ?_
    .rw[aA,kY]
     congr 2
     refine bY λj hj=>?_
     unfold ji
     by_cases e:j=dl.length
     .rw[ab e,ae jb]
     .rw[ae e,ab jb]
    .intro b9 h9
     simp(disch:=omega) only[au,iG]
    .exact fr
def lkC(o:Option Bk)(e j:Int):Option V:=match o with
 |some ⟨c,some (0,0)⟩=>bif Jg .i64 e&&Jg .i64 j then some (.c (.bool (hasB c e j)))else none
 |_=>none
def upC(o:Option Bk)(e j:Int):Option Bk:=match o with
 |some ⟨c,some (0,0)⟩=>bif Jg .i64 e&&(Jg .i64 j&&Nat.ble c.length 1000)then some ⟨c++[.int .i64 e,.int .i64 j],some (0,0)⟩else none
 |_=>none
def ajo(m k x:O)(tm:Tr V)(σ:St):uF (.TN m k x) tm σ=match m.ev tm,k.ev tm,x.ev tm with
  |.c (.mp b),.agg [.int .i64 e,.int .i64 j],.c (.bool true)=>(match upC (σ.h b) e j with|some k=>some (.und,⟨hset σ.h b k,σ.aj⟩)|none=>none)
  |_,_,_=>none:=by
 simp only[uF]
 generalize m.ev tm=M
 generalize k.ev tm=Y
 generalize x.ev tm=X
 rcases M with⟨_|_|_|_|_|_|_|_|b|_⟩|_|_|_|_|_|_<;>try rfl
 rcases Y with _|l|_|_|_|_|_<;>try rfl
 rcases l with _|⟨p,_|⟨q,_|⟨_,_⟩⟩⟩<;>try rfl
 .cases p<;>try rfl
  next y e=>cases y<;>rfl
 .rcases p with⟨y,e⟩|_|_|_|_|_|_|_|_|_<;>try rfl
  cases y<;>try rfl
  rcases q with⟨y,j⟩|_|_|_|_|_|_|_|_|_<;>try rfl
  cases y<;>try rfl
  rcases X with⟨_|u|_|_|_|_|_|_|_|_⟩|_|_|_|_|_|_<;>try rfl
  cases u<;>try rfl
  dsimp only
  unfold upC
  generalize hg:σ.h.get b=G
  rcases G with _|⟨c,_|⟨u,v⟩⟩<;>try rfl
  cases u<;>try rfl
  cases v<;>try rfl
  cases hQ:Jg .i64 e&&(Jg .i64 j&&Nat.ble c.length 1000)with
  |true=>simp only[hQ,cB];rfl
  |false=>simp only[hQ,fj]
 .rcases p with⟨y,e⟩|_|_|_|_|_|_|_|_|_<;>try rfl
  cases y<;>try rfl
  rcases q with⟨y,j⟩|_|_|_|_|_|_|_|_|_<;>try rfl
  cases y<;>rfl
section
variable {E:Env} (tm:Tr V) (σ:St) (K:V→St→Prop)
def anM:wpOp E .Ko tm σ K=K (.c (.mp σ.aj)) ⟨hset σ.h σ.aj ⟨[],some (0,0)⟩,σ.aj+1⟩:=by unfold wpOp oM;simp only[vT.kind,uF,jS]
def ajp(m k:O):wpOp E (.lookup m k) tm σ K=GN (match m.ev tm,k.ev tm with|.c (.mp b),.agg [.int .i64 e,.int .i64 j]=>lkC (σ.h b) e j|_,_=>none) λv=>K v σ:=by rw[iF _ _ _ _ (by rfl) λ_ _ h=>by cases h];rfl
def asC(m k x:O):wpOp E (.TN m k x) tm σ K=match m.ev tm,k.ev tm,x.ev tm with
  |.c (.mp b),.agg [.int .i64 e,.int .i64 j],.c (.bool true)=>(match upC (σ.h b) e j with|some k=>K .und ⟨hset σ.h b k,σ.aj⟩|none=>False)
  |_,_,_=>False:=by
 unfold wpOp oM
 simp only[vT.kind,ajo]
 generalize m.ev tm=M
 generalize k.ev tm=Y
 generalize x.ev tm=X
 rcases M with⟨_|_|_|_|_|_|_|_|b|_⟩|_|_|_|_|_|_<;>try rfl
 rcases Y with _|l|_|_|_|_|_<;>try rfl
 rcases l with _|⟨p,_|⟨q,_|⟨_,_⟩⟩⟩<;>try rfl
 .cases p<;>try rfl
  next y e=>cases y<;>rfl
 .rcases p with⟨y,e⟩|_|_|_|_|_|_|_|_|_<;>try rfl
  cases y<;>try rfl
  rcases q with⟨y,j⟩|_|_|_|_|_|_|_|_|_<;>try rfl
  cases y<;>try rfl
  rcases X with⟨_|u|_|_|_|_|_|_|_|_⟩|_|_|_|_|_|_<;>try rfl
  cases u<;>try rfl
  dsimp only
  cases upC (σ.h b) e j<;>rfl
 .rcases p with⟨y,e⟩|_|_|_|_|_|_|_|_|_<;>try rfl
  cases y<;>try rfl
  rcases q with⟨y,j⟩|_|_|_|_|_|_|_|_|_<;>try rfl
  cases y<;>rfl
end
def Qj:List Ins.Lg->List B
 |[]=>[]
 |x::r=>.int .i64 x.e:: .int .i64 x.k::Qj r
def adb:∀(l r:List Ins.Lg),Qj (l++r)=Qj l++Qj r
 |[],_=>rfl
 |x::l,r=>by show _::_::Qj (l++r)=_;rw[adb l r];rfl
def ajq(l:List Ins.Lg)(x:Ins.Lg):Qj l++[.int .i64 x.e,.int .i64 x.k]=Qj (l++[x]):=by rw[adb];rfl
def ade:∀l:List Ins.Lg,(Qj l).length=2*l.length
 |[]=>rfl
 |x::l=>by show(Qj l).length+1+1=_;rw[ade l,bX];omega
def Yi(e j:Int):∀l:List Ins.Lg,hasB (Qj l) e j=nK l ⟨e,j⟩
 |[]=>rfl
 |x::l=>by
  show(bif eqI x.e e&&eqI x.k j then true else hasB (Qj l) e j)=(x.e==e&&x.k==j||nK l ⟨e,j⟩)
  rw[Yi e j l];have h1:eqI x.e e=(x.e==e):=by rw[Bool.eq_iff_iff,TR,beq_iff_eq]
  have h2:eqI x.k j=(x.k==j):=by rw[Bool.eq_iff_iff,TR,beq_iff_eq]
  rw[h1,h2];cases(x.e==e&&x.k==j)<;>rfl
def LY{n:Nat}(h:n<=9223372036854775807):Jg .i64 (.ofNat n)=true:=ff h
def asD(l:List Ins.Lg)(a b:Nat)(ha:a<=9223372036854775807)(hb:b<=9223372036854775807)(hl:l.length<=500):upC (some ⟨Qj l,some (0,0)⟩) (.ofNat a) (.ofNat b)=some ⟨Qj (l++[⟨.ofNat a,.ofNat b⟩]),some (0,0)⟩:=by have h2:Nat.ble (Qj l).length 1000=true:=ff (by rw[ade];omega);show(bif Jg .i64 (.ofNat a)&&(Jg .i64 (.ofNat b)&&Nat.ble (Qj l).length 1000)then _ else none)=_;rw[LY ha,LY hb,h2,<-ajq];rfl
def asE(l:List Ins.Lg)(a b:Nat)(ha:a<=9223372036854775807)(hb:b<=9223372036854775807):lkC (some ⟨Qj l,some (0,0)⟩) (.ofNat a) (.ofNat b)=some (.c (.bool (nK l ⟨.ofNat a,.ofNat b⟩))):=by show(bif Jg .i64 (.ofNat a)&&Jg .i64 (.ofNat b)then some (V.c (.bool (hasB (Qj l) (.ofNat a) (.ofNat b))))else none)=_;rw[LY ha,LY hb,Yi];rfl
attribute [go_sem] anM ajp asC asD asE
def ES(g:fP)(i k:Nat):Bool:=nK (gK g.d g.d.length 0) ⟨.ofNat i,.ofNat k⟩
structure VG(g:fP):Prop where
 l:∀d,d<g.d.length->∀k,k<(ix g.d d).l.length->∃e j:Nat,ix (ix g.d d).l k=⟨.ofNat e,.ofNat j⟩/\e<g.e.length/\j<(ix g.e e).c.length
 ne:g.e.length<=8
 nd:g.d.length<=16
 nc:∀i,i<g.e.length->(ix g.e i).c.length<=24
 nl:∀d,d<g.d.length->(ix g.d d).l.length<=8
def uf{g:fP}(h:F6 g=0):VG g:=by
 unfold F6 at h;split at h
 .cases h
 next h0=>
 split at h
 .next h1=>exact absurd h h1
 next h1=>
 split at h
 .next h2=>exact absurd h h2
 next h2=>
 have h1:F5 (λi=>EM (ix g.e i)) g.e.length=0:=bp h1;refine⟨λd hd k hk=>?_,jb,jb,λi hi=>?_,λd hd=>?_⟩
 .have hD:=dY h d hd;unfold N7 at hD;split at hD
  .cases hD
  split at hD
  .cases hD
  have hL:=dY hD k hk;unfold aat at hL;dsimp only at hL;split at hL
  .cases hL
  next hr=>
  generalize ix (ix g.d d).l k=x at*;obtain⟨e,j⟩:=x;refine⟨e.toNat,j.toNat,?_,?_,?_⟩
  .have h1:Int.ofNat e.toNat=e:=eh (by dsimp only at hr;omega);have h2:Int.ofNat j.toNat=j:=eh (by dsimp only at hr;omega);rw[h1,h2]
  .dsimp only at hr;omega
  .dsimp only at hr;omega
 .have hE:=dY h1 i hi;unfold EM at hE;split at hE
  .cases hE
  .omega
 .have hD:=dY h d hd;unfold N7 at hD;split at hD
  .cases hD
  .omega
def aa5(l:List Ins.Lg)(x y:Ins.Lg):nK (l++[x]) y=(nK l y||(x.e==y.e&&x.k==y.k)):=by unfold nK;rw[List.any_append];simp
def RS(l:List uU):gK l l.length 0=l.flatMap λx=>x.l:=by unfold gK;rw[bR,cE,cW]
def RU{l:List uU}{d k:Nat}(hd:d<l.length)(hk:k<(ix l d).l.length):nK (gK l l.length 0) (ix (ix l d).l k)=true:=by rw[RS];unfold nK;rw[cQ];exact⟨_,bB.mpr ⟨_,iM hd,iM hk⟩,by simp⟩
section
variable {p:Nat→Prop} {h:Tr Bk} {v:B}
def jT.at{dl:List uU}(hD:jT p h v dl){i:Nat}(hi:i<dl.length):∃b o c,v=.sl b o dl.length c/\∃T:B,ld h b (o+i*4) 4 true=some (.agg [.bool (ix dl i).w.n,.str (ix dl i).w.s,.str (ix dl i).w.d,T])/\ld h b (o+i*4+3) 1 false=some (.c T)/\CX p h T (ix dl i).l:=by obtain⟨L,h1,h2⟩:=hD;obtain⟨b,o,c,e,-,hld⟩:=h1.pos jb;have hl:=h2 i hi;refine⟨b,o,c,e,L i,hld i hi,?_,hl⟩;rw[og (hld i hi) 3 1 false jj jj];have:=hl.kn;unfold zI;simp[this]
def CX.at{l:List Ins.Lg}(hL:CX p h v l){i:Nat}(hi:i<l.length):∃b o c,v=.sl b o l.length c/\ld h b (o+i*2) 2 true=some (.agg [.int .i64 (ix l i).e,.int .i64 (ix l i).k])/\ld h b (o+i*2) 1 false=some (.c (.int .i64 (ix l i).e))/\ld h b (o+i*2+1) 1 false=some (.c (.int .i64 (ix l i).k)):=by obtain⟨b,o,c,e,-,hld⟩:=aY.pos hL jb;have hld:=hld i hi;exact⟨b,o,c,e,hld,og hld 0 1 false jj jj,og hld 1 1 false jj jj⟩
end
def oU.ldh{p:Nat->Prop}{h:Tr Bk}{v:B}{l:List C5}(hC:oU p h v l){k:Nat}(hk:k<l.length):∃b o c,v=.sl b o l.length c/\ld h b (o+k*5) 1 false=some (.c (.int .i64 (ix l k).h))/\ld h b (o+k*5) 5 true=some (.agg (Uy (ix l k))):=by obtain⟨b,o,c,e,-,hld⟩:=aY.pos hC jb;exact⟨b,o,c,e,og (hld k hk) 0 1 false jj jj,hld k hk⟩
def Yj{l:List uU}{d k:Nat}(hk:k<(ix l d).l.length):gK l d (k+1)=gK l d k++[ix (ix l d).l k]:=by unfold gK;rw[bC hk,gl]
def Yk{l:List uU}{d:Nat}(hd:d<l.length):gK l d (ix l d).l.length=gK l (d+1) 0:=by unfold gK;rw[bR,cE,cW,bC hd,cK];simp
def apE{σ:St}(hW:WF σ){p:Nat->Prop}{ev dv:B}(g:fP)(hg:sS p σ.h ev dv g)(hV:VG g)(i k:Nat)(hi0:i<=1000)(hk0:k<=1000):
  aC EN 87 [.agg [ev,dv],.c (.int .i64 (.ofNat i)),.c (.int .i64 (.ofNat k))] σ λr σ'=>(∃a b:Int,r=.aW (.c (.int .i64 a)) (.aW (.c (.int .i64 b)) (.aW (.c (.bool (ES g i k))) .tnil))/\(ES g i k=true->∃d j:Nat,a=.ofNat d/\b=.ofNat j/\d<g.d.length/\j<(ix g.d d).l.length/\ix (ix g.d d).l j=⟨.ofNat i,.ofNat k⟩))/\Fr σ σ':=by
 refine aN (Jt.o _ _) Jt.h ?_
 unfold Jt
 dsimp only
 have hek:=hg.e.kn
 have hdk:=hg.d.kn
 have hlenD:=hg.d.choose_spec.1.len
 have hnd:=hV.nd
 simp(disch:=try exact jz) only[go_sem,z3,hek,hdk]
 refine aF (λq tm σ'=>∃d,q=g.d.length-d/\d<=g.d.length/\Tr.ah tm 1=.c (.int .i64 (.ofNat i))/\Tr.ah tm 2=.c (.int .i64 (.ofNat k))/\Tr.ah tm 3=.c (.ptr σ.aj 0)/\Tr.ah tm 9=.c (.int .i64 (.ofNat d))
  /\σ'.h σ.aj=some ⟨[ev,dv],none⟩/\nK (gK g.d d 0) ⟨.ofNat i,.ofNat k⟩=false/\Fr σ σ') g.d.length ?_ ?_
 .refine⟨0,jb,jb,?_⟩
  simp(disch:=try exact jz) only[go_sem,z3,am]
  refine⟨?_,fr⟩
  unfold gK nK;simp
 .rintro q tm σ' ⟨d,rfl,hd,t1,t2,t3,t9,q0,hno,hf⟩
  have hle:=hf.le
  simp(disch:=try exact jz) only[go_sem,z3,t1,t2,t3,t9,ak q0,hdk,hlenD,aG]
  refine aH (λhlt=>?_) (λhlt=>?_)
  .obtain⟨b,o,c,rfl,T,-,hT0,hL⟩:=hg.d.at hlt
   have hT:=hf.ld hW hT0
   have JH:=hL.kn
   have hlenL:=hL.len
   have hnl:=hV.nl d hlt
   simp(disch:=try exact jz) only[go_sem,z3,t1,t2,t3,t9]
   refine aF (λq tm σ3=>∃j,q=(ix g.d d).l.length-j/\j<=(ix g.d d).l.length/\Tr.ah tm 1=.c (.int .i64 (.ofNat i))/\Tr.ah tm 2=.c (.int .i64 (.ofNat k))/\Tr.ah tm 3=.c (.ptr σ.aj 0)/\Tr.ah tm 9=.c (.int .i64 (.ofNat d))/\Tr.ah tm 10=.c (.int .i64 (.ofNat j))
    /\σ3.h σ.aj=some ⟨[ev,.sl b o g.d.length c],none⟩/\nK (gK g.d d j) ⟨.ofNat i,.ofNat k⟩=false/\Fr σ σ3) (ix g.d d).l.length ?_ ?_
   .refine⟨0,jb,jb,?_⟩
    simp(disch:=try exact jz) only[go_sem,z3,t1,t2,t3,t9,am]
    exact⟨q0,hno,hf⟩
   .rintro q tm3 σ3 ⟨j,rfl,hj,t1,t2,t3,t9,t10,q0,afx,hf3⟩
    have hle3:=hf3.le
    have hT:=hf3.ld hW hT0
    simp(disch:=try exact jz) only[go_sem,z3,t1,t2,t3,t9,t10,ak q0,hdk,hT,JH,hlenL,aG]
    refine aH (λhlj=>?_) (λhlj=>?_)
    .obtain⟨b2,o2,c2,rfl,-,hle2,hlk2⟩:=hL.at hlj
     obtain⟨e,m,hx,he,hm⟩:=hV.l d hlt j hlj
     have hsn:=aa5 (gK g.d d j) (ix (ix g.d d).l j) ⟨.ofNat i,.ofNat k⟩
     rw[<-Yj hlj,afx,Bool.false_or,hx]at hsn
     have hht:=RU hlt hlj
     rw[hx]at hle2 hlk2 hht
     have hle2:=hf3.ld hW hle2
     have hlk2:=hf3.ld hW hlk2
     simp(disch:=try exact jz) only[go_sem,z3,t1,t2,t3,t9,t10,ak q0,hdk,hT,hle2]
     refine Uj (λh1=>?_) (λh1=>?_)
     .simp(disch:=try exact jz) only[go_sem,z3,t1,t2,t3,t9,t10,ak q0,hdk,hT,hle2,hlk2,h1]
      refine aH (λh2=>?_) (λh2=>?_)
      .rw[h1,h2]at hht
       have hlg:ES g i k=true:=hht
       simp(disch:=try exact jz) only[go_sem,z3,t1,t2,t3,t9,t10,hlg]
       exact⟨⟨_,_,rfl,λ_=>⟨d,j,rfl,rfl,hlt,hlj,by rw[hx,h1,h2]⟩⟩,hf3⟩
      .have ajn:nK (gK g.d d (j+1)) ⟨.ofNat i,.ofNat k⟩=false:=by rw[hsn];show(Int.ofNat e==Int.ofNat i&&Int.ofNat m==Int.ofNat k)=false;rw[show(Int.ofNat m==Int.ofNat k)=false from beq_eq_false_iff_ne.mpr λe=>h2 (io e),Bool.and_false]
       simp(disch:=try exact jz) only[go_sem,z3,t1,t2,t3,t9,t10]
       exact⟨(ix g.d d).l.length-(j+1),jb,j+1,rfl,jb,rfl,q0,ajn,hf3⟩
     .have ajn:nK (gK g.d d (j+1)) ⟨.ofNat i,.ofNat k⟩=false:=by rw[hsn];show(Int.ofNat e==Int.ofNat i&&Int.ofNat m==Int.ofNat k)=false;rw[show(Int.ofNat e==Int.ofNat i)=false from beq_eq_false_iff_ne.mpr λe=>h1 (io e),Bool.false_and]
      simp(disch:=try exact jz) only[go_sem,z3,t1,t2,t3,t9,t10,h1]
      exact⟨(ix g.d d).l.length-(j+1),jb,j+1,rfl,jb,rfl,q0,ajn,hf3⟩
    .have:j=(ix g.d d).l.length:=jb
     subst this
     rw[Yk hlt]at afx
     simp(disch:=try exact jz) only[go_sem,z3,t1,t2,t3,t9,t10]
     exact⟨g.d.length-(d+1),jb,d+1,rfl,jb,rfl,q0,afx,hf3⟩
  .have:d=g.d.length:=jb
   subst this
   have hlg:ES g i k=false:=hno
   simp(disch:=try exact jz) only[go_sem,z3,t3]
   exact⟨⟨_,_,by rw[hlg],λh=>by rw[hlg]at h;cases h⟩,hf⟩
end Go.Proofs.Xe
