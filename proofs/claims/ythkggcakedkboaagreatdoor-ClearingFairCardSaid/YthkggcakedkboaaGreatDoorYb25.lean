import Derived.Test.YthkggcakedkboaaGreatDoorYb24
set_option linter.all false
set_option maxRecDepth 100000
set_option maxHeartbeats 8000000
namespace Go.Proofs.Xe
open Go.RowKit Go.Proofs.Ins
def ae0{x:C5}(h:Ue x=0): -1<=x.h/\x.h<8/\0<=x.r/\x.r<=7/\¬sg x.a.q<0:=by
 unfold Ue at h;split at h
 .cases h
 .split at h
  .cases h
  .split at h
   .cases h
   .omega
def ae1{e:zC}(h:Hw e=0):e.c.length<=24/\e.a.length<=12/\¬sg e.m.q<0/\(∀i,i<e.c.length->Ue (ix e.c i)=0)/\∀k,k<e.a.length->WX e.c.length (zK e.a k) (ix e.a k)=0:=by
 unfold Hw at h;split at h
 .cases h
 .split at h
  .cases h
  .split at h
   .next h3=>exact absurd h h3
   .next h1 h2 h3=>exact⟨jb,jb,h2,fU (by simpa using h3),fU h⟩
def tkS(f:Int->Bool)(L:List Int)(l k:Nat):Bool:=f (Int.ofNat k)||(L.take l).contains (Int.ofNat k)
def am7{n l c:Nat}{f:Int->Bool}{L:List Int}(hl:l<L.length)(hc:ix L l=Int.ofNat c):ones n (aO (λk=>B.bool (tkS f L l k)) c (.bool true))=ones n λk=>.bool (tkS f L (l+1) k):=dU λk _=>by
 unfold aO tkS;rw[bF hl,hc,List.contains_append];by_cases e:k=c
 .subst e;rw[ab rfl];simp
 .rw[ae e];have:([Int.ofNat c].contains (Int.ofNat k))=false:=by simp;omega
  rw[this];simp
def am8{l:List ig}{j:Nat}(hj:j<l.length)(k:Nat):tkS (zK l j) (vX (ix l j)) (vX (ix l j)).length k=zK l (j+1) (Int.ofNat k):=by unfold tkS;rw[ce,aew hj];congr 1;rw[Bool.eq_iff_iff,List.contains_iff_mem,qM];exact⟨λh=>h.2,λh=>⟨by show(k:Int)≠-1;omega,h⟩⟩
def avt{σ:St}(hW:WF σ){p:Nat->Prop}{e:zC}{C A:B}(hc:Au p σ.h C e.c)(ha:jk p σ.h A e.a)(hz:Hw e=0)(hm:e.m.fits 1000000)(hfc:∀k,k<e.c.length->(ix e.c k).a.fits 1000000)
  (hA:∀j,j<e.a.length->(ix e.a j).length<=1000/\(ix e.a j).flatten.length<=1000000/\(∀k,k<(ix e.a j).flatten.length->(ix (ix e.a j).flatten k).a.fits 1000000)/\∀t∈ix e.a j,∀x∈t,x.k=-1\/0<=x.k/\x.k<e.c.length):
  aC EN 52 [.agg [.bool e.m.n,.str e.m.s,.str e.m.d,C,A]] σ λr σ'=>r=.c (.int .i64 (.ofNat 0))/\Fr σ σ':=by
 refine aP (qO.o _ _) qO.h ?_
 unfold qO
 dsimp only
 obtain⟨h1,h2,h3,h4,h5⟩:=ae1 hz
 have hck:=aZ.kn hc
 have hcl:=aZ.len hc
 have hak:=ha.kn
 have hal:=ha.choose_spec.1.len
 have hFr:=Fr.refl hW
 have hfit:=ru hm jj
 have hraw:rq e.m.n e.m.s e.m.d=e.m.q:=rfl
 have hsg:decide (sg e.m.q<Int.ofNat 0)=false:=aw h3
 have d1:decide ((Int.ofNat 24:Int)<Int.ofNat e.c.length)=false:=aw (by show¬((24:Int)<(e.c.length:Int));omega)
 have d2:decide ((Int.ofNat 12:Int)<Int.ofNat e.a.length)=false:=aw (by show¬((12:Int)<(e.a.length:Int));omega)
 simp(disch:=try exact jz) only[go_sem,z3,hck,hcl,hak,hal,hsg,hraw,d1,d2]
 refine bJ.mono (Q:=λex tm σ'=>ex=.exit 1/\Tr.ah tm 1=.c (.ptr σ.aj 0)/\σ'.h σ.aj=some ⟨[.bool e.m.n,.str e.m.s,.str e.m.d,C,A],none⟩/\Fr σ σ'/\σ.aj+1<=σ'.aj)
  (aF (λq tm σ'=>∃i,q=e.c.length-i/\i<=e.c.length/\Tr.ah tm 1=.c (.ptr σ.aj 0)/\Tr.ah tm 28=.c C/\Tr.ah tm 29=.c (.int .i64 (.ofNat e.c.length))/\Tr.ah tm 30=.c (.int .i64 (.ofNat i))/\σ'.h σ.aj=some ⟨[.bool e.m.n,.str e.m.s,.str e.m.d,C,A],none⟩/\Fr σ σ'/\σ.aj+1<=σ'.aj) e.c.length ?_ ?_) ?_
 .refine⟨0,jb,jb,?_⟩
  simp(disch:=try exact jz) only[go_sem,z3,am]
  exact⟨fr,jp⟩
 .rintro q tm σ' ⟨i,rfl,hi,t1,t28,t29,t30,q1,hf,hnx⟩
  simp(disch:=try exact jz) only[go_sem,z3,t1,t28,t29,t30,aG]
  refine aH (λhlt=>?_) (λhlt=>?_)
  .obtain⟨b,o,c,rfl,-,hld⟩:=aZ.pos hc jb
   have hld:=hf.ld hW (hld i hlt)
   unfold c5B at hld
   obtain⟨g1,g2,g3,g4,g5⟩:=ae0 (h4 i hlt)
   have hfit:=ru (hfc i hlt) jj
   have hraw:rq (ix e.c i).a.n (ix e.c i).a.s (ix e.c i).a.d=(ix e.c i).a.q:=rfl
   have hsg:decide (sg (ix e.c i).a.q<Int.ofNat 0)=false:=aw g5
   have e1:decide ((ix e.c i).h<Int.negSucc 0)=false:=aw (by show¬(ix e.c i).h< -1;omega)
   have e2:decide (Int.ofNat 8<=(ix e.c i).h)=false:=aw (by show¬8<=(ix e.c i).h;omega)
   have e3:decide ((ix e.c i).r<Int.ofNat 0)=false:=aw (by show¬(ix e.c i).r<0;omega)
   have e4:decide (Int.ofNat 7<(ix e.c i).r)=false:=aw (by show¬7<(ix e.c i).r;omega)
   have hle:=hf.le
   have lI:=Fr.refl hf.wf
   have hl1:=hf.wf.lt q1
   simp(disch:=try exact jz) only[go_sem,z3,t1,t28,t29,t30,hld,hsg,hraw,e1,e2,e3,e4,q1]
   exact⟨e.c.length-(i+1),jb,i+1,rfl,jb,rfl,fr,jb⟩
  .simp(disch:=try exact jz) only[go_sem,z3,am]
   exact⟨t1,q1,hf,hnx⟩
 .rintro _ Jb σ1 ⟨rfl,t1,q1,hf1,hn1⟩
  have hle1:=hf1.le
  have ae2:=Fr.refl hf1.wf
  have hl1:=hf1.wf.lt q1
  simp(disch:=try exact jz) only[go_sem,z3,t1,ak q1,q1,hck,hcl,hak,hal]
  refine aF (λq tm σ'=>∃j,q=e.a.length-j/\j<=e.a.length/\Tr.ah tm 5=.c (.sl σ1.aj 0 e.c.length (.ex e.c.length))/\Tr.ah tm 63=.c A/\Tr.ah tm 64=.c (.int .i64 (.ofNat e.a.length))/\Tr.ah tm 65=.c (.int .i64 (.ofNat j))
   /\σ'.h σ1.aj=some ⟨ones e.c.length λk=>.bool (zK e.a j (Int.ofNat k)),none⟩/\Fr σ σ'/\σ1.aj+1<=σ'.aj) e.a.length ?_ ?_
  .refine⟨0,jb,jb,?_⟩
   simp(disch:=try exact jz) only[go_sem,z3,am]
   exact⟨rfl,fr,jp⟩
  .rintro q tm σ' ⟨j,rfl,hj,t5,t63,t64,t65,q5,hf,hnx⟩
   simp(disch:=try exact jz) only[go_sem,z3,t5,t63,t64,t65,aG]
   refine aH (λhlt=>?_) (λhlt=>?_)
   .obtain⟨b,o,c,rfl,T,hld,hT⟩:=ha.at hlt
    have hld:=hf.ld hW hld
    obtain⟨a1,a2,a3,a4⟩:=hA j hlt
    have YX:=hT.kn
    have hle:=hf.le
    have lI:=Fr.refl hf.wf
    simp(disch:=try exact jz) only[go_sem,z3,t5,t63,t64,t65,hld,YX]
    refine aC.st (Fr σ') (fr) λhF=>?_
    have q5F:=hF.get hf.wf q5
    have hTF:=hT.fr hW (hf.trans hF)
    refine(avs hF.wf hTF (aZ.hl (p:=λ_=>True) (bf (G:=λk=>[.bool (zK e.a j (Int.ofNat k))]) (.ex e.c.length) q5F rfl trivial (λ_=>rfl) jj λ_ _=>rfl)) jb (h5 j hlt) a2 a3).mono ?_
    rintro _ σ2 ⟨rfl,hf2⟩
    have hF2:=hF.trans hf2
    have q7:=hf2.get hF.wf (aA _ _ _)
    have d0:decide ((0:Int)=Int.ofNat 0)=true:=rfl
    simp(disch:=try exact jz) only[go_sem,z3,ak q7,YX,t5,d0]
    refine(Rk hf2.wf (hT.fr hW (hf.trans hF2)) jb a2).mono ?_
    rintro _ σ3 ⟨⟨u,rfl,hu⟩,hf3⟩
    have hF3:=hF2.trans hf3
    have hul:=hu.len
    have huk:=hu.kn
    have q53:=hF3.get hf.wf q5
    have hle3:=hF3.le
    have hle2:=hF2.le
    have hm9:=ug a4
    have hall:=am8 hlt
    have hu2:=hu.hlp (p:=λb=>σ2.aj<=b) (λ_=>rfl) jj (λ_ _=>rfl) λb h1 _=>h1
    have azn:(vX (ix e.a j)).length<=1000000000:=by rw[<-OG];exact av (FW a4) jb
    generalize vX (ix e.a j)=L at*
    have hz0:ones e.c.length (λk=>B.bool (zK e.a j (Int.ofNat k)))=ones e.c.length λk=>.bool (tkS (zK e.a j) L 0 k):=dU λk _=>by unfold tkS;rw[cP];simp
    rw[hz0]at q53
    have axH:=hf.trans hF3
    simp(disch:=try exact jz) only[go_sem,z3,hul,huk]
    refine bJ.mono (Q:=λex tm σ4=>ex=.exit 6/\Tr.ah tm 5=.c (.sl σ1.aj 0 e.c.length (.ex e.c.length))/\Tr.ah tm 63=.c (.sl b o e.a.length c)/\Tr.ah tm 64=.c (.int .i64 (.ofNat e.a.length))/\Tr.ah tm 65=.c (.int .i64 (.ofNat j))
     /\σ4.h σ1.aj=some ⟨ones e.c.length λk=>.bool (tkS (zK e.a j) L L.length k),none⟩/\Fr σ σ4/\σ3.aj<=σ4.aj)
     (aF (λq tm σ4=>∃l,q=L.length-l/\l<=L.length/\Tr.ah tm 5=.c (.sl σ1.aj 0 e.c.length (.ex e.c.length))/\Tr.ah tm 63=.c (.sl b o e.a.length c)/\Tr.ah tm 64=.c (.int .i64 (.ofNat e.a.length))/\Tr.ah tm 65=.c (.int .i64 (.ofNat j))/\Tr.ah tm 76=.c u/\Tr.ah tm 77=.c (.int .i64 (.ofNat L.length))/\Tr.ah tm 78=.c (.int .i64 (.ofNat l))
     /\σ4.h σ1.aj=some ⟨ones e.c.length λk=>.bool (tkS (zK e.a j) L l k),none⟩/\Fr σ σ4/\aU [σ1.aj] σ3 σ4) L.length ?_ ?_) ?_
    .refine⟨0,jb,jb,?_⟩
     simp(disch:=try exact jz) only[go_sem,z3,t5,t63,t64,t65,am]
     exact⟨q53,axH,(Fr.refl hf3.wf).ex _⟩
    .rintro q tm σ4 ⟨l,rfl,hl,t5,t63,t64,t65,t76,t77,t78,q54,hf4,hfe⟩
     simp(disch:=try exact jz) only[go_sem,z3,t5,t63,t64,t65,t76,t77,t78,aG]
     refine aH (λQc=>?_) (λQc=>?_)
     .obtain⟨b7,o7,c7,rfl,hp7,dO⟩:=aZ.pos hu2 jb
      have hp7:σ2.aj<=b7:=hp7
      have dO:=hfe.ld hf3.wf (by simp;omega) (dO l Qc)
      have dO:=(vF dO).1
      obtain⟨m1,m2⟩:=hm9 _ (kN Qc)
      obtain⟨cc,hcc⟩:=ck m1
      have hst:=am7 (n:=e.c.length) (f:=zK e.a j) Qc hcc
      have axI:ix L l=Int.ofNat cc:=hcc
      have hcn:cc<e.c.length:=jb
      have azo:=hf4.wf.lt q54
      have uH:=hfe.le
      have Dw:=Fr.refl hf4.wf
      rw[axI]at dO
      simp(disch:=try exact jz) only[go_sem,z3,t5,t63,t64,t65,t76,t77,t78,dO,q54,aJ q54,hst]
      exact⟨L.length-(l+1),jb,l+1,rfl,jb,rfl,rfl,fr,by repeat(first|assumption|exact aU.refl (by assumption)|exact aU.up (by assumption) kf|exact aU.up (aU.refl (by assumption)) kf|refine aU.set1 ?_ kg kf|refine aU.kM ?_ kg|refine aU.nC ?_ kg|refine aU.ou ?_ kf)⟩
     .have:l=L.length:=jb
      subst this
      simp(disch:=try exact jz) only[go_sem,z3,am]
      exact⟨t5,t63,t64,t65,q54,hf4,hfe.le⟩
    .rintro _ tm4 σ4 ⟨rfl,t5,t63,t64,t65,q54,hf4,hn4⟩
     simp(disch:=try exact jz) only[go_sem,z3,t5,t63,t64,t65]
     refine⟨e.a.length-(j+1),jb,j+1,rfl,jb,rfl,?_,hf4,jb⟩
     rw[q54]
     exact bV (λl=>some (Bk.mk l none)) (dU λk _=>bV B.bool (hall k))
   .simp(disch:=try exact jz) only[go_sem,z3,am]
    exact hf
structure axJ(e:zC):Prop where
 m:ZH e.m.n e.m.s e.m.d=true
 c:∀i,i<e.c.length->ZH (ix e.c i).a.n (ix e.c i).a.s (ix e.c i).a.d=true
 a:∀k,k<e.a.length->∀t,t<(ix e.a k).length->∀i,i<(ix (ix e.a k) t).length->ZH (ix (ix (ix e.a k) t) i).a.n (ix (ix (ix e.a k) t) i).a.s (ix (ix (ix e.a k) t) i).a.d=true
def Rl(nc:Nat)(al:List ig)(x:Ai):Prop:=((x.k=-1/\x.b=true)\/∃i:Nat,i<nc/\x.k=(i:Int)/\ain al x.k)/\∃w:Nat,w<=16/\x.a=tN ((Int.ofNat w:Int):Rat)
def Fg(nc:Nat)(al:List ig)(t:List Ai):Prop:=∀k,k<t.length->Rl nc al (ix t k)
def Fg.snoc{nc:Nat}{al:List ig}{t:List Ai}{x:Ai}(h:Fg nc al t)(hx:Rl nc al x):Fg nc al (t++[x]):=λk hk=>by
 rw[az,bX]at hk;by_cases e:k=t.length
 .rw[e,gV];exact hx
 .rw[gU _ _ jb];exact h k jb
structure TI(σ σ':St)(tb i nc:Nat)(al:List ig)(ts:Nat->List Ai)(bs:Nat->Nat):Prop where
 b:σ'.h tb=some ⟨ones 3 (λt=>lC (ts t) (bs t)),none⟩
 f:Kr σ'.h 3 Bz 5 97 ts bs (tb+1) σ'.aj
 g:∀t,t<3->Fg nc al (ts t)
 l:∀t,t<3->(ts t).length<=i
 n:tb+1<=σ'.aj
 fr:Fr σ σ'
def ae3(ts:Nat->List Ai)(bs:Nat->Nat)(t nx:Nat)(x:Ai):(λj=>lC (aO ts t (ts t++[x]) j) (aO bs t nx j))=aO (λj=>lC (ts j) (bs j)) t (.sl nx 0 ((ts t).length+1) .opn):=by
 funext j;unfold aO;split
 .next e=>rw[jc kc,az];rfl
 .rfl
def acH(l:List Ai):l.length*5<=(bP l.length (λk=>Bz (ix l k))).length:=by rw[qL (e:=5) λ_=>rfl];exact jp
def XY(l:List Ai):(bP l.length (λk=>Bz (ix l k))).take (l.length*5)=bP l.length (λk=>Bz (ix l k)):=zY λ_=>rfl
section
variable {σ σ' : St} {tb i nc:Nat} {al:List ig} {ts:Nat→List Ai} {bs:Nat→Nat}
def TI.step(hT:TI σ σ' tb i nc al ts bs){σ3:St}(hf:Fr σ' σ3):TI σ σ3 tb (i+1) nc al ts bs:=by have hn:=hT.n;have hle:=hf.le;exact⟨by rw[hf.old _ jb];exact hT.b,hT.f.mono (λb _ hb=>hf.old b hb) hle,hT.g,λt ht=>by have:=hT.l t ht;omega,jb,hT.fr.trans hf⟩
def TI.push(hT:TI σ σ' tb i nc al ts bs){t nx n':Nat}{x:Ai}{h':Tr Bk}(ht:t<3)(hg:Rl nc al x)(hb:h' tb=some ⟨ones 3 (aO (λj=>lC (ts j) (bs j)) t (.sl nx 0 ((ts t).length+1) .opn)),none⟩)
  (hx:h' nx=some ⟨bP (ts t).length (λk=>Bz (ix (ts t) k))++Bz x,some (5,97)⟩) (ho:∀b,tb+1<=b->b<σ'.aj->(0<(ts t).length->b≠bs t)->h' b=σ'.h b) (hn:σ'.aj<=nx) (hn':nx<n') (hf:Fr σ ⟨h',n'⟩):
  TI σ ⟨h',n'⟩ tb (i+1) nc al (aO ts t (ts t++[x])) (aO bs t nx):=by
 have hn0:=hT.n
 refine⟨?_,?_,λj hj=>?_,λj hj=>?_,by show tb+1<=n';omega,hf⟩
 .rw[ae3];exact hb
 .refine hT.f.push ht x rfl hx (λj hj e hp=>?_) jb hn hn'
  obtain⟨-,k2,k3⟩:=hT.f.blk j hj hp
  exact ho _ k2 k3 λhp2 e2=>e (hT.f.inj j t hj ht hp hp2 e2)
 .unfold aO
  split
  .next e=>exact(hT.g t ht).snoc hg
  .exact hT.g j hj
 .unfold aO
  split
  .next e=>rw[az,bX];have:=hT.l t ht;omega
  .have:=hT.l j hj;omega
end
def aZ.plt{σ:St}(hW:WF σ){p:Nat->Prop}{e n:Nat}{v:B}{G:Nat->List B}(hl:aZ p σ.h e v n G):aZ (λb=>p b/\b<σ.aj) σ.h e v n G:=by
 rcases hl with h|⟨b,o,c,h1,h2,h3⟩
 .exact .inl h
 .exact .inr ⟨b,o,c,h1,λh=>⟨h2 h,hW.bH (h3 0 h)⟩,h3⟩
def dZ.plt{σ:St}(hW:WF σ){p:Nat->Prop}{v:B}{l:ig}(hl:dZ p σ.h v l):dZ (λb=>p b/\b<σ.aj) σ.h v l:=by obtain⟨T,k1,k2⟩:=hl;exact⟨T,k1.plt hW,λj hj=>(k2 j hj).plt hW⟩
def agree_end{σ σ':St}{tb i nc:Nat}{al:List ig}{ts:Nat->List Ai}{bs:Nat->Nat}(hW:WF σ){p:Nat->Prop}{T:Nat->B}(hT2:∀j,j<al.length->dZ p σ.h (T j) (ix al j))(YX:∀j,j<al.length->(T j).kn=true)(hT:TI σ σ' tb i nc al ts bs)(hi:i<=nc+1)(htb:σ.aj<=tb)
  {h':Tr Bk}{n' rb:Nat}(hr:h' rb=some ⟨bP (al.length+1) (λj=>[if j<al.length then T j else .sl tb 0 3 (.ex 3)]),some (1,100)⟩) (ho:∀b,b<σ'.aj->h' b=σ'.h b) (hrb:σ'.aj<=rb) (hn:rb<n') (hf:Fr σ ⟨h',n'⟩):
  (∃rv a,V.c (.sl rb 0 (al.length+1) .opn)=.c rv/\jk (λb=>p b\/σ.aj<=b/\b<n') h' rv (al++[a])/\a.length=3/\∀t,t<3->Fg nc al (ix a t)/\(ix a t).length<=nc+1)/\Fr σ ⟨h',n'⟩:=by
 have hle:=hT.fr.le
 have hn1:=hT.n
 have h3:∀t,t<3->ix [ts 0,ts 1,ts 2] t=ts t:=λt ht=>by
  match t,ht with
  |0,_=>rfl
  |1,_=>rfl
  |2,_=>rfl
 refine⟨⟨_,[ts 0,ts 1,ts 2],rfl,⟨λj=>if j<al.length then T j else .sl tb 0 3 (.ex 3),?_,λj hj=>?_⟩,rfl,λt ht=>?_⟩,hf⟩
 .have:(al++[[ts 0,ts 1,ts 2]]).length=al.length+1:=by simp
  rw[this]
  exact bf _ hr rfl (.inr ⟨jb,hn⟩) (λ_=>rfl) jj λj hj=>by
   dsimp only;split
   .next e=>simp only[cY,fa,YX j e,eE]
   .rfl
 .have hj':j<al.length+1:=by simpa using hj
  dsimp only
  by_cases e:j<al.length
  .rw[ab e,gU _ _ e]
   refine((hT2 j e).plt hW).keep (λb hb=>?_) λb hb=>.inl hb.1
   rw[ho b jb,hT.fr.old b hb.2]
  .rw[ae e]
   obtain rfl:j=al.length:=jb
   rw[gV]
   refine⟨λt=>lC (ts t) (bs t),?_,λt ht=>?_⟩
   .have hb:h' tb=some ⟨bP 3 (λt=>[lC (ts t) (bs t)]),none⟩:=by rw[ho tb jb];exact hT.b
    exact bf _ hb rfl (.inr ⟨htb,jb⟩) (λ_=>rfl) jj λj _=>by simp only[cY,fa,qZ,eE]
   .have ht:t<3:=ht
    rw[h3 t ht]
    exact(hT.f.hlp (p:=λb=>tb+1<=b/\b<σ'.aj) (λb h1 h2=>⟨h1,h2⟩) (λ_=>rfl) jj (λ_=>rfl) ht).keep (λb hb=>ho b hb.2) λb hb=>.inr ⟨jb,jb⟩
 .rw[h3 t ht]
  exact⟨hT.g t ht,by have:=hT.l t ht;omega⟩
def am9{σ:St}(hW:WF σ){p:Nat->Prop}{x1 x2 x3 C A:B}(al:List ig)(hA:jk p σ.h A al)(hl:arJ al)(nc:Nat)(hC:lenV (.c C)=some (.c (.int .i64 (.ofNat nc))))(hnc:nc<=1000)(h1:x1.kn=true)(h2:x2.kn=true)(h3:x3.kn=true)(h4:C.kn=true)
  (p0 p1 p2:Nat) (b0:p0<=65535) (b1:p1<=65535) (b2:p2<=65535):
  aC EN 28 [.agg [x1,x2,x3,C,A],.agg [.int .u16 (.ofNat p0),.int .u16 (.ofNat p1),.int .u16 (.ofNat p2)]] σ λr σ'=>(∃rv a,r=.c rv/\jk (λb=>p b\/σ.aj<=b/\b<σ'.aj) σ'.h rv (al++[a])/\a.length=3/\∀t,t<3->Fg nc al (ix a t)/\(ix a t).length<=nc+1)/\Fr σ σ':=by
 refine aP (FQ.o _ _) FQ.h ?_
 unfold FQ
 dsimp only
 have hAk:=hA.kn
 simp(disch:=try exact jz) only[go_sem,z3,hAk,hC,h4]
 refine bJ.mono (Q:=λe tm σ'=>e=.exit 0/\∃ts bs,Tr.ah tm 2=.c (.ptr σ.aj 0)/\Tr.ah tm 3=.c (.ptr (σ.aj+1) 0)/\Tr.ah tm 5=.c (.sl (σ.aj+1+1) 0 3 (.ex 3))
  /\σ'.h σ.aj=some ⟨[x1,x2,x3,C,A],none⟩/\σ'.h (σ.aj+1)=some ⟨[.int .u16 (.ofNat p0),.int .u16 (.ofNat p1),.int .u16 (.ofNat p2)],none⟩/\TI σ σ' (σ.aj+1+1) nc nc al ts bs) (aF (λq tm σ'=>∃i ts bs,q=nc-i/\i<=nc/\Tr.ah tm 2=.c (.ptr σ.aj 0)/\Tr.ah tm 3=.c (.ptr (σ.aj+1) 0)/\Tr.ah tm 5=.c (.sl (σ.aj+1+1) 0 3 (.ex 3))/\Tr.ah tm 6=.c (.int .i64 (.ofNat p1))/\Tr.ah tm 17=.c (.int .i64 (.ofNat nc))/\Tr.ah tm 18=.c (.int .i64 (.ofNat i))
  /\σ'.h σ.aj=some ⟨[x1,x2,x3,C,A],none⟩/\σ'.h (σ.aj+1)=some ⟨[.int .u16 (.ofNat p0),.int .u16 (.ofNat p1),.int .u16 (.ofNat p2)],none⟩/\TI σ σ' (σ.aj+1+1) i nc al ts bs) nc ?_ ?_) ?_
 .refine⟨0,λ_=>[],λ_=>0,jb,jb,?_⟩
  simp(disch:=try exact jz) only[go_sem,z3,am]
  refine⟨?_,Kr.nil _ _ _ _ _ _ _ _,λt _ k hk=>by simp at hk,λt _=>cU 0,jp,?_⟩
  .rw[aA];rfl
  .exact fr
 .rintro q tm σ' ⟨i,ts,bs,rfl,hi,t2,t3,t5,t6,t17,nJ,q1,q2,hT⟩
  have hle:=hT.fr.le
  have hn:=hT.n
  have hr:=yx p1 (2^min (2*i) 64) 9223372036854775807 jb
  simp(disch:=try exact jz) only[go_sem,z3,t2,t3,t5,t6,t17,nJ,aG]
  refine aH (λhlt=>?_) (λhlt=>?_)
  .simp(disch:=try exact jz) only[go_sem,z3,t2,t3,t5,t6,t17,nJ]
   have hx3:(p1/2^min (2*i) 64)&&&3<=3:=Nat.and_le_right
   generalize (p1/2^min (2*i) 64)&&&3=x at*
   refine WQ (λhx0=>?_) (λhx0=>?_)
   .simp(disch:=try exact jz) only[go_sem,z3,t2,t3,t5,t6,t17,nJ,hx0]
    exact⟨nc-(i+1),jb,i+1,ts,bs,rfl,jb,rfl,q1,q2,hT.step (Fr.refl hT.fr.wf)⟩
   .have Rn:=hT.b
    simp(disch:=try exact jz) only[go_sem,z3,t2,t3,t5,t6,t17,nJ,hx0,ak q1,h1,h2,h3,h4,hAk]
    refine(arK hT.fr.wf al (hA.fr hW hT.fr) hl h1 h2 h3 h4 (.ofNat i)).mono ?_
    rintro _ σ3 ⟨⟨fb,rfl,hfb⟩,hf3⟩
    have q1':=hf3.get hT.fr.wf q1
    have q2':=hf3.get hT.fr.wf q2
    simp(disch:=try exact jz) only[go_sem,z3,t2,t3,t5,t6,t17,nJ]
    cases fb
    .simp(disch:=try exact jz) only[go_sem,z3,t2,t3,t5,t6,t17,nJ]
     exact⟨nc-(i+1),jb,i+1,ts,bs,rfl,jb,rfl,q1',q2',hT.step hf3⟩
    .have Jw:=hT.step hf3
     have hf0:=hfb rfl
     have hF3:=Jw.fr
     have Rn:=Jw.b
     have hn3:=Jw.n
     have hle3:=Jw.fr.le
     have hkn:=qZ (ts (x-1)) (bs (x-1))
     have hpl:=acH (ts (x-1))
     have hpt:=XY (ts (x-1))
     have hxl:=Jw.l (x-1) jb
     have hr2:=yx p2 (2^min i 64) 9223372036854775807 jb
     have hr3:=yx p2 (2^min 6 16) 9223372036854775807 jb
     have hgood:∀(b:Bool) (w:Nat),w<=16->Rl nc al ⟨.ofNat i,b,tN ((Int.ofNat w:Int):Rat)⟩:=λb w hw=>⟨.inr ⟨i,hlt,rfl,hf0⟩,w,hw,rfl⟩
     simp(disch:=try exact jz) only[go_sem,z3,t2,t3,t5,t6,t17,nJ,ak q2']
     refine aH (λhcap=>?_) (λhcap=>?_)
     .by_cases hz:(ts (x-1)).length=0
      .have he:lC (ts (x-1)) (bs (x-1))=.aX:=by unfold lC;rw[ab hz]
       simp(disch:=try exact jz) only[go_sem,z3,t2,t3,t5,t6,t17,nJ,ak q2',ak Rn,Rn,he]
       refine⟨nc-(i+1),jb,i+1,aO ts (x-1) (ts (x-1)++[⟨.ofNat i,true,tN ((Int.ofNat (p2/2^min 6 16%9):Int):Rat)⟩]),aO bs (x-1) (σ3.aj+1+1),rfl,jb,rfl,?_,?_,TI.push (i:=i) ⟨Jw.b,Jw.f,Jw.g,λt ht=>?_,Jw.n,Jw.fr⟩ jb (hgood true (p2/2^min 6 16%9) jb) ?_ ?_ ?_ ?_ ?_ ?_⟩
       .exact q1'
       .exact q2'
       .exact hT.l t ht
       .rw[hz,aA]
       .rw[au _ _ _ _ jb,aA,hz];rfl
       .intro b h1 h2 h3
        simp(disch:=omega) only[au]
       .omega
       .omega
       .exact fr
      .have he:=jc (l:=ts (x-1)) jb (bs (x-1))
       obtain⟨k1,k2,k3⟩:=Jw.f.blk (x-1) jb jb
       simp(disch:=try exact jz) only[go_sem,z3,t2,t3,t5,t6,t17,nJ,ak q2',ak Rn,Rn,he,k1,hpt]
       refine⟨nc-(i+1),jb,i+1,aO ts (x-1) (ts (x-1)++[⟨.ofNat i,true,tN ((Int.ofNat (p2/2^min 6 16%9):Int):Rat)⟩]),aO bs (x-1) (σ3.aj+1+1),rfl,jb,rfl,?_,?_,TI.push (i:=i) ⟨Jw.b,Jw.f,Jw.g,λt ht=>?_,Jw.n,Jw.fr⟩ jb (hgood true (p2/2^min 6 16%9) jb) ?_ ?_ ?_ ?_ ?_ ?_⟩
       .exact q1'
       .exact q2'
       .exact hT.l t ht
       .rw[aA]
       .rw[au _ _ _ _ jb,aA];rfl
       .intro b h1 h2 h3
        have h3:=h3 jb
        simp(disch:=first|assumption|omega) only[au,iE]
       .omega
       .omega
       .exact fr
     .by_cases hz:(ts (x-1)).length=0
      .have he:lC (ts (x-1)) (bs (x-1))=.aX:=by unfold lC;rw[ab hz]
       simp(disch:=try exact jz) only[go_sem,z3,t2,t3,t5,t6,t17,nJ,ak q2',ak Rn,Rn,he]
       refine⟨nc-(i+1),jb,i+1,aO ts (x-1) (ts (x-1)++[⟨.ofNat i,false,tN ((Int.ofNat (0):Int):Rat)⟩]),aO bs (x-1) (σ3.aj+1+1),rfl,jb,rfl,?_,?_,TI.push (i:=i) ⟨Jw.b,Jw.f,Jw.g,λt ht=>?_,Jw.n,Jw.fr⟩ jb (hgood false (0) jb) ?_ ?_ ?_ ?_ ?_ ?_⟩
       .exact q1'
       .exact q2'
       .exact hT.l t ht
       .rw[hz,aA]
       .rw[au _ _ _ _ jb,aA,hz];rfl
       .intro b h1 h2 h3
        simp(disch:=omega) only[au]
       .omega
       .omega
       .exact fr
      .have he:=jc (l:=ts (x-1)) jb (bs (x-1))
       obtain⟨k1,k2,k3⟩:=Jw.f.blk (x-1) jb jb
       simp(disch:=try exact jz) only[go_sem,z3,t2,t3,t5,t6,t17,nJ,ak q2',ak Rn,Rn,he,k1,hpt]
       refine⟨nc-(i+1),jb,i+1,aO ts (x-1) (ts (x-1)++[⟨.ofNat i,false,tN ((Int.ofNat (0):Int):Rat)⟩]),aO bs (x-1) (σ3.aj+1+1),rfl,jb,rfl,?_,?_,TI.push (i:=i) ⟨Jw.b,Jw.f,Jw.g,λt ht=>?_,Jw.n,Jw.fr⟩ jb (hgood false (0) jb) ?_ ?_ ?_ ?_ ?_ ?_⟩
       .exact q1'
       .exact q2'
       .exact hT.l t ht
       .rw[aA]
       .rw[au _ _ _ _ jb,aA];rfl
       .intro b h1 h2 h3
        have h3:=h3 jb
        simp(disch:=first|assumption|omega) only[au,iE]
       .omega
       .omega
       .exact fr
  .have:i=nc:=jb
   subst this
   simp(disch:=try exact jz) only[go_sem,z3,am]
   exact⟨ts,bs,t2,t3,t5,q1,q2,hT⟩
 .rintro _ tm σ' ⟨rfl,ts,bs,t2,t3,t5,q1,q2,hT⟩
  have hF:=hT.fr
  have hle:=hT.fr.le
  have hn:=hT.n
  have Rn:=hT.b
  have hr0:=yx p0 8 65535 b0
  have hr1:=yx p0 32 65535 b0
  have hr2:=yx p0 96 65535 b0
  show bJ EN (.seq _ _) _ _ _
  refine acC (λtm σ3=>∃ts bs i2,i2<=nc+1/\Tr.ah tm 2=.c (.ptr σ.aj 0)/\Tr.ah tm 5=.c (.sl (σ.aj+1+1) 0 3 (.ex 3))/\σ3.h σ.aj=some ⟨[x1,x2,x3,C,A],none⟩/\TI σ σ3 (σ.aj+1+1) i2 nc al ts bs) ?_ ?_
  .simp(disch:=try exact jz) only[go_sem,z3,t2,t3,t5,ak q2]
   refine aH (λhcap=>?_) (λhcap=>?_)
   .generalize hx:p0/32%3=x at*
    have hx3:x<3:=jb
    have hkn:=qZ (ts x) (bs x)
    have hpl:=acH (ts x)
    have hpt:=XY (ts x)
    have hxl:=hT.l x hx3
    have hgood:Rl nc al ⟨-1,true,tN ((Int.ofNat (p0/96%7):Int):Rat)⟩:=⟨.inl ⟨rfl,rfl⟩,_,jb,rfl⟩
    by_cases hz:(ts x).length=0
    .have he:lC (ts x) (bs x)=.aX:=by unfold lC;rw[ab hz]
     simp(disch:=try exact jz) only[go_sem,z3,t2,t3,t5,hx,ak q2,ak Rn,Rn,he]
     refine⟨aO ts x (ts x++[⟨-1,true,tN ((Int.ofNat (p0/96%7):Int):Rat)⟩]),aO bs x (σ'.aj+1),nc+1,jb,q1,TI.push hT hx3 hgood ?_ ?_ ?_ ?_ ?_ ?_⟩
     .rw[hz,aA]
     .rw[au _ _ _ _ jb,aA,hz];rfl
     .intro b h1 h2 h3
      simp(disch:=omega) only[au]
     .omega
     .omega
     .exact fr
    .have he:=jc (l:=ts x) jb (bs x)
     obtain⟨k1,k2,k3⟩:=hT.f.blk x hx3 jb
     simp(disch:=try exact jz) only[go_sem,z3,t2,t3,t5,hx,ak q2,ak Rn,Rn,he,k1,hpt]
     refine⟨aO ts x (ts x++[⟨-1,true,tN ((Int.ofNat (p0/96%7):Int):Rat)⟩]),aO bs x (σ'.aj+1),nc+1,jb,q1,TI.push hT hx3 hgood ?_ ?_ ?_ ?_ ?_ ?_⟩
     .rw[aA]
     .rw[au _ _ _ _ jb,aA];rfl
     .intro b h1 h2 h3
      have h3:=h3 jb
      simp(disch:=first|assumption|omega) only[au,iE]
     .omega
     .omega
     .exact fr
   .simp(disch:=try exact jz) only[go_sem,z3,am]
    exact⟨ts,bs,nc,jb,t2,t5,q1,hT⟩
  .rintro tm σ3 ⟨ts,bs,i2,hi2,t2,t5,q1,hT⟩
   have hF:=hT.fr
   have hle:=hT.fr.le
   have hn:=hT.n
   obtain⟨T,hT1,hT2⟩:=hA
   have YX:∀j,j<al.length->(T j).kn=true:=λj hj=>by obtain⟨b,o,c,e,-,hld⟩:=hT1.pos jb;exact(vF (hld j hj)).2
   have hal:=hl.1
   have hAk:=hT1.kn
   by_cases h0:al.length=0
   .have hA0:A=.aX\/∃b o c,A=.sl b o 0 c:=by
     rcases hT1 with⟨-,e⟩|⟨b,o,c,e,-⟩
     .exact .inl e
     .exact .inr ⟨b,o,c,by rw[e,h0]⟩
    have hfin:∀h':Tr Bk,h'=hset (hset σ3.h σ3.aj ⟨[.sl (σ.aj+1+1) 0 3 (.ex 3)],none⟩) (σ3.aj+1) ⟨[.sl (σ.aj+1+1) 0 3 (.ex 3)],some (1,100)⟩->(∃rv a,V.c (.sl (σ3.aj+1) 0 1 .opn)=.c rv/\jk (λb=>p b\/σ.aj<=b/\b<σ3.aj+1+1) h' rv (al++[a])/\a.length=3/\∀t,t<3->Fg nc al (ix a t)/\(ix a t).length<=nc+1)/\Fr σ ⟨h',σ3.aj+1+1⟩:=λh' e=>by subst e;have:=agree_end (rb:=σ3.aj+1) (n':=σ3.aj+1+1) (h':=hset (hset σ3.h σ3.aj ⟨[.sl (σ.aj+1+1) 0 3 (.ex 3)],none⟩) (σ3.aj+1) ⟨[.sl (σ.aj+1+1) 0 3 (.ex 3)],some (1,100)⟩) hW hT2 YX hT hi2 jb (by rw[aA,h0];rfl) (λb9 h9=>by simp(disch:=omega) only[au]) jb jb (fr);rw[h0]at this;exact this
    rcases hA0 with rfl|⟨b,o,c,rfl⟩
    .simp(disch:=try exact jz) only[go_sem,z3,t2,t5,ak q1,h1,h2,h3,h4,hAk]
     exact hfin _ rfl
    .simp(disch:=try exact jz) only[go_sem,z3,t2,t5,ak q1,h1,h2,h3,h4,hAk]
     exact hfin _ rfl
   .obtain⟨b,o,c,rfl,-,hld⟩:=hT1.pos jb
    have hbl:=hW.bH (hld 0 jb)
    obtain⟨kk,e1,e2,e3,e4,e5⟩:=QN jb λi hi=>hF.ld hW (hld i hi)
    simp(disch:=try exact jz) only[go_sem,z3,t2,t5,ak q1,h1,h2,h3,h4,hAk,e1,e3,e4,e5,e2]
    refine agree_end hW hT2 YX hT hi2 jb ?_ ?_ jb jb ?_
    .rw[aA,zY (e:=1) (G:=λi=>[T i]) (λ_=>rfl),mF]
     congr 2
     refine cO λj hj=>?_
     unfold ji
     by_cases e:j=al.length
     .rw[ab e,ae jb]
     .rw[ae e,ab jb]
    .intro b9 h9
     simp(disch:=omega) only[au,iE]
    .exact fr
end Go.Proofs.Xe
