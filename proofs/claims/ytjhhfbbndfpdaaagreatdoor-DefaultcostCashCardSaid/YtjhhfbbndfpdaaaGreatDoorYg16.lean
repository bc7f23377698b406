import Derived.Test.YtjhhfbbndfpdaaaGreatDoorYg12
import Derived.Shelf.Small.Bits
set_option linter.all false
set_option maxHeartbeats 8000000
noncomputable section
namespace Go.Proofs.Xe
open Go.RowKit Go.Proofs.Ins
def auk(j:IntKind)(a:Nat):GH .u32 (.c (.int j (.ofNat a)))=some (.c (.int .u32 (.ofNat (a%4294967296)))):=by rfl
def ayn(j:IntKind)(a:Nat):GH .u8 (.c (.int j (.ofNat a)))=some (.c (.int .u8 (.ofNat (a%256)))):=by have h:IntKind.u8.wrap (Int.ofNat a)=Int.ofNat (a%256):=rfl;grind[GH,IU,nV,Nat.le_of_ble_eq_true]
theorem MJ{a:Nat}(h:a<18446744073709551616):IntKind.u64.wrap (Int.ofNat a)=Int.ofNat a:=by grind[IntKind.wrap_u64]
def arB{a:Nat}(h:a<4294967296):IntKind.u32.wrap (Int.ofNat a)=Int.ofNat a:=by grind[IntKind.wrap_u32]
def agL(a b:Nat)(h:a+b<18446744073709551616):iT .add (.c (.int .u64 (.ofNat a))) (.c (.int .u64 (.ofNat b)))=some (.c (.int .u64 (.ofNat (a+b)))):=by show some (V.c (.int .u64 (IntKind.u64.wrap (Int.ofNat (a+b)))))=_;rw[MJ h]
def agM(a b:Nat):iT .add (.c (.int .u32 (.ofNat a))) (.c (.int .u32 (.ofNat b)))=some (.c (.int .u32 (.ofNat ((a+b)%4294967296)))):=by rfl
def agN(a b:Nat)(h:a*b<18446744073709551616):iT .mul (.c (.int .u64 (.ofNat a))) (.c (.int .u64 (.ofNat b)))=some (.c (.int .u64 (.ofNat (a*b)))):=by show some (V.c (.int .u64 (IntKind.u64.wrap (Int.ofNat (a*b)))))=_;rw[MJ h]
def agO(a b:Nat)(h:a<18446744073709551616)(h2:b<=a):iT .sub (.c (.int .u64 (.ofNat a))) (.c (.int .u64 (.ofNat b)))=some (.c (.int .u64 (.ofNat (a-b)))):=by show some (V.c (.int .u64 (IntKind.u64.wrap (Int.ofNat a-Int.ofNat b))))=_;grind[MJ]
def aoR(a b:Nat)(h:0<b)(h2:a<18446744073709551616):iT .quo (.c (.int .u64 (.ofNat a))) (.c (.int .u64 (.ofNat b)))=some (.c (.int .u64 (.ofNat (a/b)))):=
 abX _ _ _ h (MJ (cW (fj _ _) h2))
def arC(k j:IntKind)(a c:Nat):iT .shl (.c (.int k (.ofNat a))) (.c (.int j (.ofNat c)))=some (.c (.int k (k.wrap (Int.ofNat (a*2^min c k.bits))))):=by
 have e:iT .shl (.c (.int k (.ofNat a))) (.c (.int j (.ofNat c)))=VX .shl k (.ofNat a) (.ofNat c):=by
  unfold iT;dsimp only;by_cases h:k=j
  .subst h;rw[aq rfl];rfl
  grind
 grind[VX]
def aoS(j:IntKind)(a c:Nat)(hc:c<=64)(h:a*2^c<18446744073709551616):iT .shl (.c (.int .u64 (.ofNat a))) (.c (.int j (.ofNat c)))=some (.c (.int .u64 (.ofNat (a*2^c)))):=by rw[arC,show min c IntKind.u64.bits=c from gp hc,MJ h]
def aoT(j:IntKind)(a c:Nat)(hc:c<=32)(h:a*2^c<4294967296):iT .shl (.c (.int .u32 (.ofNat a))) (.c (.int j (.ofNat c)))=some (.c (.int .u32 (.ofNat (a*2^c)))):=by rw[arC,show min c IntKind.u32.bits=c from gp hc,arB h]
def Qm{a b s:Nat}(h:b<2^s):a*2^s|||b=a*2^s+b:=by rw[cR,<-ib h]
def akc(a b s:Nat)(h:b<2^s)(h2:a*2^s+b<18446744073709551616):iT .or (.c (.int .u64 (.ofNat (a*2^s)))) (.c (.int .u64 (.ofNat b)))=some (.c (.int .u64 (.ofNat (a*2^s+b)))):=by rw[lZ];unfold IV yw;dsimp only;rw[Qg .u64 _ b (by show _<18446744073709551616;omega) (by show b<18446744073709551616;omega),Qm h];exact bp (λz=>some (V.c (.int .u64 z))) (MJ h2)
def abb(a b s:Nat)(h:b<2^s)(h2:a*2^s+b<4294967296):iT .or (.c (.int .u32 (.ofNat b))) (.c (.int .u32 (.ofNat (a*2^s))))=some (.c (.int .u32 (.ofNat (b+a*2^s)))):=by rw[lZ];unfold IV yw;dsimp only;rw[Qg .u32 b _ (by show b<4294967296;omega) (by show _<4294967296;omega),Nat.or_comm,Qm h,dC];exact bp (λz=>some (V.c (.int .u32 z))) (arB jb)
def aoU(a:Nat)(h:a<18446744073709551616):iT .and (.c (.int .u64 (.ofNat a))) (.c (.int .u64 (.ofNat 4294967295)))=some (.c (.int .u64 (.ofNat (a%4294967296)))):=by rw[lZ];unfold IV yw;dsimp only;rw[WB .u64 a _ h jj,show a&&&4294967295=a%4294967296 from Nat.and_two_pow_sub_one_eq_mod a 32];exact bp (λz=>some (V.c (.int .u64 z))) (MJ jb)
def ayo(k:IntKind)(a b:Nat):iT .lss (.c (.int k (.ofNat a))) (.c (.int k (.ofNat b)))=some (.c (.bool (decide (a<b)))):=by rw[lZ,<-aA];rfl
def ayp(k:IntKind)(a b:Nat):iT .gtr (.c (.int k (.ofNat a))) (.c (.int k (.ofNat b)))=some (.c (.bool (decide (b<a)))):=by rw[lZ,<-aA];rfl
def ayq(k:IntKind)(a b:Nat):iT .geq (.c (.int k (.ofNat a))) (.c (.int k (.ofNat b)))=some (.c (.bool (decide (b<=a)))):=by rw[lZ,show decide (b<=a)=decide (Int.ofNat b<=Int.ofNat a) by simp];rfl
def yj(n:Nat)(f:Nat->Nat):List B:=aY n λi=>[.int .u32 (.ofNat (f i))]
def akd(n:Nat)(f:Nat->Nat)(i:Nat)(h:i<n):yZ (yj n f) (i*1) 1 false=some (.c (.int .u32 (.ofNat (f i)))):=Wx n (λi=>.int .u32 (.ofNat (f i))) i h
def ake(n:Nat)(f:Nat->Nat)(i v:Nat)(h:i<n):wI (yj n f) (i*1) [.int .u32 (.ofNat v)]=some (yj n (upd f i v)):=by refine(Wy n (λi=>.int .u32 (.ofNat (f i))) i _ h).trans (bp some ?_);exact bf λj _=>by grind[aJ,upd]
def FM{n:Nat}{f g:Nat->Nat}(h:∀i,i<n->f i=g i):yj n f=yj n g:=bf λi hi=>by grind
attribute [go_sem] auk ayn agL agM agN agO aoR aoS aoT akc abb aoU ayo ayp ayq akd ake
def BU{a b:Nat}(ha:a<LB)(hb:b<LB):a*2^32<18446744073709551616/\a*2^32+b<18446744073709551616:=by unfold LB at ha hb;rw[show(2:Nat)^32=4294967296 from rfl];omega
def aed{b n m:Nat}(h:n<=m)(h0:0<m):Dk 1 (.c (.sl b 0 m (.ex m))) none (some (jN n)) none=some (.c (.sl b 0 n (.ex m))):=by simp only[Dk,Jg,DX,nV h,nV (aM n),cI,ce,CY h0];rfl
def WI{h:Tr Bk}{b n e:Nat}{G:Nat->List B}{o:Option (Nat×Nat)}(hb:h b=some ⟨aY n G,o⟩)(hr:X7 o=true)(hG:∀j,(G j).length=e)(he:0<e)(hk:∀j,j<n->(G j).all B.kn=true){i:Nat}(hi:i<n):ld h b (0+i*e) e true=some (.agg (G i)):=by rw[au hb,Qc,hr,ce,ck];have:=Ap (k:=0) (m:=e) true hG hi jb he;grind[yZ,Y2]
def aul{h:Tr Bk}{b n e:Nat}{G:Nat->List B}{o:Option (Nat×Nat)}(c:Cap)(hb:h b=some ⟨aY n G,o⟩)(hr:X7 o=true)(hG:∀j,(G j).length=e)(he:0<e)(hk:∀j,j<n->(G j).all B.kn=true):HL h e (.sl b 0 n c) n G:=
 .inr ⟨b,0,c,rfl,λ_ hi=>WI hb hr hG he hk hi⟩
theorem tH{h:Tr Bk}{b o:Nat}{x:B}(e:ld h b o 1 true=some (.agg [x])):ld h b o 1 false=some (.c x)/\x.kn=true:=by grind[Go.Proofs.Xe.ld,Go.Proofs.Xe.yZ,Nat.beq]
def HL.one{h:Tr Bk}{v:B}{n:Nat}{G:Nat->B}(hl:HL h 1 v n λi=>[G i])(hn:0<n):∃b o c,v=.sl b o n c/\∀i,i<n->ld h b (o+i*1) 1 false=some (.c (G i)):=by obtain⟨b,o,c,e,hld⟩:=hl.pos hn;grind[tH]
def agP(G:Nat->List B)(i:Nat)(a b:List B):iC (iC G i a) i b=iC G i b:=by grind[iC]
def Qn{G:Nat->List B}{e i:Nat}{x:List B}(hG:∀j,(G j).length=e)(hx:x.length=e)(j:Nat):(iC G i x j).length=e:=by grind[iC]
theorem WJ(G:Nat->List B)(i:Nat)(x:List B):iC G i x i=x:=ab rfl
section
variable {E:Env} {tm:Tr V} {J:St} {K:V→St→Prop}
def akf(v:V):Option V:=match v with|.c (.str s)=>some (jN s.size)|_=>none
def aum(x:O):wpOp E (.slen x) tm J K=Dw (akf (x.ev tm)) λv=>K v J:=by rw[fM _ _ _ _ (by rfl) λ_ _ h=>by cases h];show Dw (adL x tm) _=_;grind[adL,akf,qH]
def aoV(s:ByteArray):akf (.c (.str s))=some (jN s.size):=rfl
def aee(v w:V):Option V:=match v,DX w with|.c (.str s),some j=>(match s.data.toList[j]? with|some b=>some (.c (.int .u8 (.ofNat b.toNat)))|none=>none)|_,_=>none
def aun(x y:O):wpOp E (.Tv x y) tm J K=Dw (aee (x.ev tm) (y.ev tm)) λv=>K v J:=by rw[fM _ _ _ _ (by rfl) λ_ _ h=>by cases h];show Dw (adM x y tm) _=_;unfold adM aee;grind[qH]
def aoW(s:ByteArray)(j:Nat)(h:j<s.size):aee (.c (.str s)) (jN j)=some (.c (.int .u8 (.ofNat (s.data.toList.getD j 0).toNat))):=by simp_all[Go.Proofs.Xe.aee,Go.Proofs.Xe.DX]
def ab5(v w:V):Option V:=match v,DX w with|.c (.str s),some j=>bif Nat.ble j s.size then some (.c (.str ⟨⟨s.data.toList.drop j⟩⟩))else none|_,_=>none
def aoX(x y:O):wpOp E (.Pj x y) tm J K=Dw (ab5 (x.ev tm) (y.ev tm)) λv=>K v J:=by rw[fM _ _ _ _ (by rfl) λ_ _ h=>by cases h];rfl
def akg(s:ByteArray)(j:Nat)(h:j<=s.size):ab5 (.c (.str s)) (jN j)=some (.c (.str ⟨⟨s.data.toList.drop j⟩⟩)):=by simp_all[ab5,DX,nV]
end
attribute [go_sem] aum aoV aun aoW aoX akg
def aoY(l:List UInt8)(k:Nat)(h:∀j,j<k->l.getD j 0=0):bv (l.drop k)=bv l:=by
 induction k generalizing l with
 |zero=>rfl
 |succ k ih=>
  cases l with
  |nil=>rfl
  |cons x l=>
   have hx:x=0:=by simpa using h 0 jb
   rw[List.drop_succ_cons,ih l (λj hj=>by grind),xH,hx]
   simp
def UL(s:ByteArray)(k:Nat)(hk:k<=s.size)(h:∀j,j<k->s.data.toList.getD j 0=0)(h2:k=s.size\/s.data.toList.getD k 0≠0):(⟨⟨s.data.toList.drop k⟩⟩:ByteArray)=bn (nv s):=by have e2:nv ⟨⟨s.data.toList.drop k⟩⟩=nv s:=aoY _ _ h;grind[J7,Yd,List.head?_drop]
abbrev EZ:Env:=Eb []
set_option maxRecDepth 100000
def Ey:qW 59:=.mk _
def KU:qW 174:=.mk _
def ab6:qW 58:=.mk _
def Qo:qW 36:=.mk _
def ab7{J:St}(hW:WF J)(s:ByteArray)(hs:s.size<=9223372036854775000):aC EZ 59 [.c (.str s)] J λr J'=>r=.c (.str (bn (nv s)))/\Fr J J':=by
 refine dO Ey rfl ?_;unfold Ey;dsimp only;have hFr:=Fr.refl hW;simp(disch:=try exact jz)only[go_sem,z3];refine aF (λx tm J'=>∃k,x=s.size-k/\k<=s.size/\r8 tm 0=.c (.str s)/\r8 tm 3=jN k/\(∀j,j<k->s.data.toList.getD j 0=0)/\Fr J J') s.size ?_ ?_
 .refine⟨0,jb,jb,?_⟩;simp(disch:=try exact jz)only[go_sem,z3,am];grind
 .rintro x tm J' ⟨k,rfl,hk,t0,t3,hz,hF⟩;by_cases hlt:k<s.size
  .have hd:decide (k<s.size)=true:=aq hlt;by_cases h0:(s.data.toList.getD k 0).toNat=0
   .have hd2:decide ((s.data.toList.getD k 0).toNat=0)=true:=aq h0;simp(disch:=try exact jz)only[go_sem,z3,t0,t3,aA,hd,hd2];exact⟨s.size-(k+1),jb,k+1,rfl,jb,rfl,λj hj=>by
     rcases cM.mp hj with h|rfl
     .grind
     .exact UInt8.toNat_inj.mp kd,hF⟩
   .have hd2:decide ((s.data.toList.getD k 0).toNat=0)=false:=af h0;have hx:=UL s k hk hz (.inr λe=>h0 (by simp_all));simp(disch:=try exact jz)only[go_sem,z3,t0,t3,aA,hd,hd2,hx];exact hF
  .have hd:decide (k<s.size)=false:=af hlt;have hx:=UL s k hk hz (.inl jb);simp(disch:=try exact jz)only[go_sem,z3,t0,t3,aA,hd,hx];exact hF
def Qp(h:Tr Bk)(v:B)(n:Nat)(f:Nat->Nat):Prop:=HL h 1 v n (λi=>[.int .u32 (.ofNat (f i))])/\agv v/\∀i,i<n->f i<LB
def Lm(N:Nat)(h:Tr Bk)(v:B)(x:Nat):Prop:=∃n f,n<=N/\Qp h v n f/\Ins.Can f n/\lv f n=x
theorem Qp.fr{J J':St}(hW:WF J)(hf:Fr J J'){v:B}{n:Nat}{f:Nat->Nat}(h:Qp J.h v n f):Qp J'.h v n f:=⟨h.1.fr hW hf,h.2⟩
theorem Lm.fr{J J':St}(hW:WF J)(hf:Fr J J'){N:Nat}{v:B}{x:Nat}(h:Lm N J.h v x):Lm N J'.h v x:=by obtain⟨n,f,h1,h2,h3⟩:=h;exact⟨n,f,h1,h2.fr hW hf,h3⟩
def Lm.mono{N M:Nat}{h:Tr Bk}{v:B}{x:Nat}(hl:Lm N h v x)(hN:N<=M):Lm M h v x:=by obtain⟨n,f,h1,h2⟩:=hl;exact⟨n,f,jb,h2⟩
theorem Lm.zero(N:Nat)(h:Tr Bk):Lm N h .aO 0:=⟨0,λ_=>0,aM _,⟨.inl ⟨rfl,rfl⟩,trivial,λi hi=>jb⟩,⟨λi hi=>jb,.inl rfl⟩,rfl⟩
def Lm.kn{N:Nat}{h:Tr Bk}{v:B}{x:Nat}(hl:Lm N h v x):v.kn=true:=by obtain⟨n,f,h1,h2,h3⟩:=hl;exact h2.1.kn
def jU{h:Tr Bk}{b n:Nat}{f:Nat->Nat}{o:Option (Nat×Nat)}{c:Cap}(hb:h b=some ⟨yj n f,o⟩)(hr:X7 o=true)(hc:agv (.sl b 0 n c))(hf:∀i,i<n->f i<LB):Qp h (.sl b 0 n c) n f:=
 ⟨aul (G:=λi=>[.int .u32 (.ofNat (f i))]) c hb hr (λ_=>rfl) jj λ_ _=>rfl,hc,hf⟩
def Qp.one{h:Tr Bk}{v:B}{n:Nat}{f:Nat->Nat}(hl:Qp h v n f)(hn:0<n):∃b o c,v=.sl b o n c/\∀i,i<n->ld h b (o+i*1) 1 false=some (.c (.int .u32 (.ofNat (f i)))):=hl.1.one hn
theorem Qp.take {h:Tr Bk} {v:B} {n m:Nat} {f:Nat→Nat} (hl:Qp h v n f) (hm:m≤n) : ∃ v',Dk 1 (.c v) none (some (.c (.int .i64 (.ofNat m)))) none=some (.c v')∧Qp h v' m f:=by
 obtain ⟨h1,h2,h3⟩:=hl
 rcases h1 with ⟨rfl,rfl⟩|⟨b,o,c,rfl,h1⟩
 ·obtain rfl:m=0:=jb
  exact ⟨.aO,rfl,.inl ⟨rfl,rfl⟩,trivial,fun i hi=>jb⟩
 ·by_cases hm0:m=0
  ·subst hm0
   have key : ∃ o' c',Dk 1 (.c (.sl b o n c)) none (some (.c (.int .i64 (.ofNat 0)))) none=some (.c (.sl b o' 0 c')):=by
    cases c with
    | ex k =>
     by_cases hk:0<k
     ·simp_all[Dk,Jg,DX,Nat.ble,CY]
     ·exact ⟨o,.any,by obtain rfl:k=0:=jb;rfl⟩
    | opn=>simp_all[Dk,Jg,DX,Nat.ble]
    | any =>
     simp_all[Dk,Jg,DX,Nat.ble]
   obtain ⟨o',c',e⟩:=key
   exact ⟨_,e,.inr ⟨b,o',c',rfl,fun i hi=>jb⟩,by cases c' <;> first|exact Nat.zero_le _|trivial,fun i hi=>jb⟩
  ·obtain ⟨v',e,h4,h5⟩:=ajI (v:=.sl b o n c) (n:=n) h2 (.inr ⟨b,o,c,rfl,jb⟩) hm 1
   refine ⟨v',e,?_,h4,fun i hi=>h3 i jb⟩
   rcases h5 with ⟨h5,-⟩|⟨b',o',c1,c',e1,rfl⟩
   ·omega
   ·cases e1
    exact .inr ⟨_,_,_,rfl,fun i hi=>h1 i jb⟩
def prd(j:Nat):Int:=if j=0 then Int.negSucc 0 else Int.ofNat (j-1)
def oK{j:Nat}(h:j<=9223372036854775807):iT .sub (jN j) (jN 1)=some (.c (.int .i64 (prd j))):=by
 cases j with
 |zero=>rfl
 |succ j=>rw[ai5 _ _ jb jb];rfl
def aef{l:List Nat}{k:Nat}(b:qW k)(hb:b.a=KU.a)(hk:l.contains k=false){J:St}(hW:WF J){v:B}{n:Nat}{f:Nat->Nat}(hl:Qp J.h v n f)(hn:n<=1073741824):aC (Eb l) k [.c v] J λr J'=>(∃v',r=.c v'/\Qp J'.h v' (Ae f n) f)/\Fr J J':=by
 refine dO b hk ?_;rw[hb];unfold KU;dsimp only;have hFr:=Fr.refl hW;have hlen:=hl.1.len;have hkn:=hl.1.kn;simp(disch:=try exact jz)only[go_sem,z3,hlen,hkn];refine aF (λx tm J'=>x<=n/\Ae f x=Ae f n/\r8 tm 0=.c v/\r8 tm 3=jN x/\Fr J J') n ?_ ?_
 .simp(disch:=try exact jz)only[go_sem,z3,am];exact⟨jp,hFr⟩
 .rintro x tm J' ⟨hx,he,t0,t3,hF⟩;cases x with
  |zero=>
   obtain⟨v',e,h2⟩:=hl.take (aM n)
   have e0:Ae f n=0:=he.symm
   have hd:decide (0<0)=false:=rfl
   simp(disch:=try exact jz)only[go_sem,z3,t0,t3,hd,e]
   exact⟨⟨v',rfl,e0▸h2.fr hW hF⟩,hF⟩
  |succ k=>
   obtain⟨b,o,c,rfl,hld⟩:=hl.one jb
   have hld:=hF.ld hW (hld k jb)
   have hd:decide (0<k+1)=true:=aq jb
   have e1:k+1-1=k:=rfl
   by_cases h0:f k=0
   .have hd2:decide (f k=0)=true:=aq h0
    simp(disch:=try exact jz)only[go_sem,z3,t0,t3,hd,e1,hld,hd2]
    exact⟨k,jb,jb,(show Ae f (k+1)=Ae f k from ab h0).symm.trans he,rfl,hF⟩
   .have hd2:decide (f k=0)=false:=af h0
    have e2:Ae f n=k+1:=he.symm.trans (ae h0)
    obtain⟨v',e,h2⟩:=hl.take (m:=k+1) jb
    simp(disch:=try exact jz)only[go_sem,z3,t0,t3,hd,e1,hld,hd2,e]
    exact⟨⟨v',rfl,e2▸h2.fr hW hF⟩,hF⟩
def aeg{J:St}(hW:WF J){v:B}{n:Nat}{f:Nat->Nat}(hl:Qp J.h v n f)(hn:n<=1073741824):aC EZ 58 [.c v] J λr J'=>(∃v',r=.c v'/\Qp J'.h v' (Ae f n) f)/\Fr J J':=aef ab6 rfl rfl hW hl hn
def aeh{J:St}(hW:WF J){N M:Nat}{v w:B}{x y:Nat}(hx:Lm N J.h v x)(hy:Lm M J.h w y)(hN:N<=1073741824)(hM:M<=1073741824):aC EZ 36 [.c v,.c w] J λr J'=>r=.c (.int .i64 (rQ x y))/\Fr J J':=by
 refine dO Qo rfl ?_;unfold Qo;dsimp only;obtain⟨n,f,hn,hf,hc,rfl⟩:=hx;obtain⟨m,g,hm,hg,hcg,rfl⟩:=hy;have hFr:=Fr.refl hW;have hla:=hf.1.len;have hlb:=hg.1.len;have hka:=hf.1.kn;have hkb:=hg.1.kn;simp(disch:=try exact jz)only[go_sem,z3,hla,hlb,hka,hkb];by_cases hnm:n=m
 .subst hnm;have hd0:decide (n=n)=true:=aq rfl;have sp:=oK (j:=n) jb;simp(disch:=try exact jz)only[go_sem,z3,hla,hlb,hd0,sp];refine aF (λq tm J'=>q<=n/\(∀j,q<=j->j<n->f j=g j)/\r8 tm 0=.c v/\r8 tm 1=.c w/\r8 tm 5=.c (.int .i64 (prd q))/\Fr J J') n ?_ ?_
  .simp(disch:=try exact jz)only[go_sem,z3,am];grind
  .rintro q tm J' ⟨hq,he,t0,t1,t5,hF⟩;cases q with
   |zero=>
    have t5:r8 tm 5=.c (.int .i64 (.negSucc 0)):=t5
    have hd:decide (Int.ofNat 0<=Int.negSucc 0)=false:=rfl
    have e:lv f n=lv g n:=jH λj hj=>he j (aM j) hj
    rw[e,zK]
    simp(disch:=try exact jz)only[go_sem,z3,t0,t1,t5,hd]
    grind
   |succ k=>
    have t5:r8 tm 5=jN k:=t5
    have hd:decide (0<=k)=true:=aq (aM _)
    obtain⟨b,o,c,e1,hld⟩:=hf.one jb
    obtain⟨b',o',c',e2,jA⟩:=hg.one jb
    have hld:=hF.ld hW (hld k jb)
    have jA:=hF.ld hW (jA k jb)
    have t0':=t0
    have t1':=t1
    rw[e1]at t0'
    rw[e2]at t1'
    have sp:=oK (j:=k) jb
    by_cases h0:f k=g k
    .have hd2:decide (f k=g k)=true:=aq h0
     simp(disch:=try exact jz)only[go_sem,z3,t0',t1',t5,hd,hld,jA,hd2,sp]
     grind
    .have hd2:decide (f k=g k)=false:=af h0
     by_cases h3:f k<g k
     .have hd3:decide (f k<g k)=true:=aq h3
      rw[qM (xG hc.1 hcg.1 jb (λj h1 h2=>he j h1 h2) h3)]
      simp(disch:=try exact jz)only[go_sem,z3,t0',t1',t5,hd,hld,jA,hd2,hd3]
      first|exact hF|exact⟨rfl,hF⟩
     .have hd3:decide (f k<g k)=false:=af h3
      rw[qN (xG hcg.1 hc.1 jb (λj h1 h2=>(he j h1 h2).symm) jb)]
      simp(disch:=try exact jz)only[go_sem,z3,t0',t1',t5,hd,hld,jA,hd2,hd3]
      first|exact hF|exact⟨rfl,hF⟩
 .have hd0:decide (n=m)=false:=af hnm;by_cases h3:n<m
  .have hd3:decide (n<m)=true:=aq h3;rw[qM (Ins.Can.DC hc hcg h3)];simp(disch:=try exact jz)only[go_sem,z3,hla,hlb,hd0,hd3,aA];first|exact hFr|exact⟨rfl,hFr⟩
  .have hd3:decide (n<m)=false:=af h3;rw[qN (Ins.Can.DC hcg hc jb)];simp(disch:=try exact jz)only[go_sem,z3,hla,hlb,hd0,hd3,aA];first|exact hFr|exact⟨rfl,hFr⟩
section
variable {dA bP tm:Tr V} {i:Nat} {us os:List Nat} {d:Option Nat} {g9:Option (Nat×Bool)} {l:List DO} {J:St} {v:V}
def aoZ(x:O):again J ⟨i,⟨d,g9,.slen x⟩,tm,v,true,none⟩=true:=je _ _ _ _ _ _ _ rfl rfl
def ao0(x y:O):again J ⟨i,⟨d,g9,.Tv x y⟩,tm,v,true,none⟩=true:=je _ _ _ _ _ _ _ rfl rfl
end
section
variable {dA bP:Tr V} {i:Nat} {us os:List Nat} {d:Option Nat} {g9:Option (Nat×Bool)} {l:List DO} {J:St} {res} {pd} {K}
def ao1(x:O):vY dA bP (⟨i,us,os,⟨d,g9,.slen x⟩⟩::l) J res pd K=qR g9 dA bP res us os J pd i d (.slen x) l K:=pW E0 _ _ _ _ _ _ _ _ _ _ _ _ _ rfl
def ao2(x y:O):vY dA bP (⟨i,us,os,⟨d,g9,.Tv x y⟩⟩::l) J res pd K=qR g9 dA bP res us os J pd i d (.Tv x y) l K:=pW E0 _ _ _ _ _ _ _ _ _ _ _ _ _ rfl
end
attribute [go_sem] aoZ ao0 ao1 ao2
def TB{x:Nat}(h:0<(bn x).size):256^((bn x).size-1)<=x:=by
 have h1:Na x≠[]:=by intro e;have:(bn x).size=(Na x).length:=rfl;grind
 have:=Ug (Iq x) h1;rw[OJ]at this;exact this
def agQ(x n:Nat)(h1:(bn x).size<=4*n)(h2:4*n<=(bn x).size+3):Ins.Can (pw (NM (bn x)) (bn x).size) n/\lv (pw (NM (bn x)) (bn x).size) n=x:=by
 have hv:lv (pw (NM (bn x)) (bn x).size) n=x:=by rw[aq4 _ h1,aa8,gU]
 refine⟨⟨λj _=>Ye (VH _) _ j,?_⟩,hv⟩;rcases cY n with e|e
 .omega
 .right;intro h0;obtain⟨k,rfl⟩:∃k,n=k+1:=⟨n-1,jb⟩
  rw[iz]at h0;rw[dB,h0,iu,bO]at hv;have h3:=Dy (f:=pw (NM (bn x)) (bn x).size) (n:=k) (λj _=>Ye (VH _) _ j);have h4:=TB (x:=x) jb;have h5:LB^k<=256^((bn x).size-1):=by rw[VJ];exact bq jb jb
  omega
set_option maxRecDepth 100000
def Qq:qW 33:=.mk _
def UM:qW 62:=.mk _
def NZ{J:St}(hW:WF J)(s:ByteArray){N:Nat}(hs:(bn (nv s)).size<=4*N)(hN:N<=268435456)(hs2:s.size<=1073741824):aC EZ 33 [.c (.str s)] J λr J'=>(∃v,r=.c v/\Lm N J'.h v (nv s))/\Fr J J':=by
 refine dO Qq rfl ?_;unfold Qq;dsimp only;simp(disch:=try exact jz)only[go_sem,z3];refine(ab7 hW s jb).mono ?_;rintro _ σ1 ⟨rfl,hF⟩;obtain⟨n,hn⟩:∃n,n=((bn (nv s)).size+3)/4:=⟨_,rfl⟩
 obtain⟨c1,c2⟩:=agQ (nv s) n jb jb;generalize hx:nv s=x at*;clear hx;generalize ht:bn x=t at*;have hb:=VH t;have hFr:=Fr.refl hF.wf;simp(disch:=try exact jz)only[go_sem,z3,<-hn];refine aF (λq tm J'=>∃i,q=t.size-i/\i<=t.size/\r8 tm 0=.c (.str t)/\r8 tm 3=.c (.sl σ1.aj 0 n (.ex n))/\r8 tm 4=jN i/\J'.h σ1.aj=some ⟨yj n (pw (NM t) i),none⟩/\Fr σ1 J') t.size ?_ ?_
 .refine⟨0,jb,jb,?_⟩;simp(disch:=try exact jz)only[go_sem,z3,am];exact⟨bp (λz=>some (Bk.mk z none)) (FM (f:=λ_=>0) λj _=>(VI (NM t) j).symm),fr⟩
 .rintro q tm J' ⟨i,rfl,hi,t0,t3,t4,hbk,hf⟩;by_cases hlt:i<t.size
  .have hd:decide (i<t.size)=true:=aq hlt;have l1:=aia hb i;have l2:=Ye hb (i+1) (i/4);have l3:NM t i*2^(8*(i%4))+pw (NM t) i (i/4)<4294967296:=by grind[Iu,upd_same,LB]
   have l4:NM t i*2^(8*(i%4))<4294967296:=jb;have l5:NM t i%4294967296=NM t i:=bA kd;have e6:(t.data.toList.getD (t.size-1-i) 0).toNat=NM t i:=rfl;have hbl:=hf.wf.lt hbk;simp(disch:=try exact jz)only[go_sem,z3,t0,t3,t4,aA,hd,au hbk,aG hbk,hbk,e6,l5];exact⟨t.size-(i+1),jb,i+1,rfl,jb,rfl,bp (λz=>some (Bk.mk z none)) (FM λj _=>by rw[Iu]),fr⟩
  .obtain rfl:i=t.size:=jb;have hd:decide (t.size<t.size)=false:=af (eO _);simp(disch:=try exact jz)only[go_sem,z3,t0,t3,t4,aA,hd];exact⟨⟨_,rfl,n,_,jb,jU hbk rfl (cx n) (c1.1),c1,c2⟩,hF.trans hf⟩
section
variable {E:Env} {tm:Tr V} {J:St} {K:V→St→Prop}
def Zn(J:St)(v:V):Option V:=match v with
 |.c (.sl b o n (.ex _))=>(match J.h.get b with
  |some k=>bif k.rd&&Nat.ble (o+n) k.cells.length then(match byL ((k.cells.drop o).take n)with|some l=>some (.c (.str ⟨⟨l⟩⟩))|none=>none)else none
  |none=>none)
 |_=>none
def auo(x:O):wpOp E (.Yp x) tm J K=Dw (Zn J (x.ev tm)) λv=>K v J:=by rw[fM _ _ _ _ (by rfl) λ_ _ h=>by cases h];rfl
end
attribute [go_sem] auo
def b4(x:Nat):List B:=[.int .u8 (.ofNat (x/2^24%256)),.int .u8 (.ofNat (x/2^16%256)),.int .u8 (.ofNat (x/2^8%256)),.int .u8 (.ofNat (x%256))]
def u4(x:Nat):List UInt8:=[UInt8.ofNat (x/2^24%256),UInt8.ofNat (x/2^16%256),UInt8.ofNat (x/2^8%256),UInt8.ofNat (x%256)]
def txL:Nat->(Nat->Nat)->List UInt8
 |0,_=>[]
 |n+1,g=>u4 (g 0)++txL n λi=>g (i+1)
def WL:∀(n:Nat) (g:Nat->Nat),(txL n g).length=4*n
 |0,_=>rfl
 |n+1,g=>by rw[txL,ax,WL n];show 4+4*n=_;omega
def ayr{x:Nat}(h:x<LB):bv (u4 x)=x:=by
 have e:∀y,(UInt8.ofNat (y%256)).toNat=y%256:=λy=>by simp
 show(((0*256+(UInt8.ofNat _).toNat)*256+(UInt8.ofNat _).toNat)*256+(UInt8.ofNat _).toNat)*256+(UInt8.ofNat _).toNat=x;grind[LB]
def akh:∀(n:Nat) (f:Nat->Nat),(∀j,j<n->f j<LB)->bv (txL n λi=>f (n-1-i))=lv f n
 |0,_,_=>rfl
 |n+1,f,h=>by rw[txL,Uf,WL,ayr (h _ jb),dB,VJ];have:=akh n f λj hj=>h j jb;rw[show(λi=>f (n+1-1-(i+1)))=λi=>f (n-1-i)from funext λi=>by congr 1;omega,this,show n+1-1-0=n from rfl,cR,dC]
def aei:∀(n:Nat) (g:Nat->Nat),byL (aY n λi=>b4 (g i))=some (txL n g)
 |0,_=>rfl
 |n+1,g=>by have:=aei n λi=>g (i+1);show(match(match(match(match byL (aY n λi=>b4 (g (i+1)))with|some l=>some (_::l)|none=>none)with|some l=>some (_::l)|none=>none)with|some l=>some (_::l)|none=>none)with|some l=>some (UInt8.ofNat _::l)|none=>none)=_;rw[this];rfl
def ays(x:B):∀n,rep [x] (n*4)=aY n λ_=>[x,x,x,x]
 |0=>rfl
 |n+1=>by
  have:=ays x n;rw[show(n+1)*4=n*4+1+1+1+1 by omega];show [x]++([x]++([x]++([x]++rep [x] (n*4))))=[x,x,x,x]++aY n λ_=>[x,x,x,x]
  rw[this];rfl
theorem wr4{l:List B}(h:l.length=4)(a b c d:B):wI l 0 [a,b,c,d]=some [a,b,c,d]:=by
 match l,h with
 |[_,_,_,_],_=>rfl
def agR{ty b n i nx c:Nat}{H:Nat->List B}{h:Tr Bk}{k:Bk}(p q r s:B)(hb:h b=some ⟨aY n H,none⟩)(hH:∀j,(H j).length=4)(hi:i<n)(hc:b≠c):
  rU ty 1 1 (.c (.sl b 0 (i*4) (.ex (n*4)))) 4 [p,q,r,s] ⟨hset h c k,nx⟩=some (.c (.sl b 0 ((i+1)*4) (.ex (n*4))),⟨hset (hset h c k) b ⟨aY n (iC H i [p,q,r,s]),none⟩,nx⟩):=by
 have e1:(hset h c k).get b=some ⟨aY n H,none⟩:=(ak _ _ _ _ hc).trans hb
 have e2:wI (aY n H) (i*4*1) [p,q,r,s]=some (aY n (iC H i [p,q,r,s])):=by have:=uS (k:=0) (vs:=[p,q,r,s]) hH hi (cx 4);grind[wr4]
 have e3:Nat.blt (n*4) (i*4+4)=false:=by
  cases e:Nat.blt (n*4) (i*4+4)with
  |false=>rfl
  |true=>have:=az e;omega
 have e4:Nat.ble (i*4+4) (n*4)=true:=nV jb
 unfold rU
 dsimp only
 rw[e1]
 dsimp only
 rw[e2,e3,e4]
 simp only[Bool.and_false,Bool.false_and,eQ,Bool.and_true,show Nat.beq 4 0=false from rfl,show Nat.beq 0 0=true from rfl,Bk.pl,ce,qH]
 rw[cj]
 rfl
theorem aup{J:St}(hW:WF J){v:B}{m:Nat}{f:Nat->Nat}(hl:Qp J.h v m f)(hm:m<=268435456):aC EZ 62 [.c v] J λr J'=>r=.c (.str (bn (lv f m)))/\Fr J J':=by
 refine dO UM rfl ?_;unfold UM;dsimp only;have hkn:=hl.1.kn;simp(disch:=try exact jz)only[go_sem,z3,hkn];refine(aeg hW hl jb).mono ?_;rintro _ σ1 ⟨⟨w,rfl,hw⟩,hF⟩;have htl:=Ip f m;rw[<-VG f m];generalize Ae f m=n at*;have hlen:=hw.1.len;have hkn:=hw.1.kn;have hFr:=Fr.refl hF.wf;have hf:=hw.2.2;have sp:=oK (j:=n) jb;simp(disch:=try exact jz)only[go_sem,z3,hlen,hkn,sp,cR 4 n];refine aF (λq tm J'=>∃H,q<=n/\r8 tm 0=.c w/\r8 tm 3=.c (.sl σ1.aj 0 ((n-q)*4) (.ex (n*4)))/\r8 tm 4=.c (.int .i64 (prd q))/\J'.h σ1.aj=some ⟨aY n H,none⟩/\(∀j,(H j).length=4)/\(∀j,j<n-q->H j=b4 (f (n-1-j)))/\Fr σ1 J') n ?_ ?_
 .refine⟨λ_=>[.int .u8 (.ofNat 0),.int .u8 (.ofNat 0),.int .u8 (.ofNat 0),.int .u8 (.ofNat 0)],jp,?_⟩;simp(disch:=try exact jz)only[go_sem,z3,am];exact⟨by simp,bp (λz=>some (Bk.mk z none)) ((Y8 _ (n*4)).symm.trans (ays _ n)),λ_=>trivial,λj hj=>jb,fr⟩
 .rintro q tm J' ⟨H,hq,t0,t3,t4,hbk,h4,hH,hF2⟩;have hbl:=hF2.wf.lt hbk;have hge:=hF2.le;cases q with
  |zero=>
   have t4:r8 tm 4=.c (.int .i64 (.negSucc 0)):=t4
   have hd:decide (Int.ofNat 0<=Int.negSucc 0)=false:=rfl
   have e1:aY n H=aY n λj=>b4 (f (n-1-j)):=bf λj hj=>hH j hj
   have e2:Zn J' (.c (.sl σ1.aj 0 (n*4) (.ex (n*4))))=some (.c (.str ⟨⟨txL n λi=>f (n-1-i)⟩⟩)):=by
    have e3:((aY n H).drop 0).take (n*4)=aY n H:=by rw[gg,<-ng (n:=n) h4,cr]
    unfold Zn;dsimp only;rw[show J'.h.get σ1.aj=some ⟨aY n H,none⟩from hbk];dsimp only;rw[e3,e1,aei,nV (by rw[ck,<-e1,ng (n:=n) h4];omega)];rfl
   have e5:nv ⟨⟨txL n λi=>f (n-1-i)⟩⟩=lv f n:=akh n f hf
   have e6:(⟨⟨txL n λi=>f (n-1-i)⟩⟩:ByteArray).size<=9223372036854775000:=by show(txL n λi=>f (n-1-i)).length<=_;rw[WL];omega
   rw[Nat.sub_zero]at t3
   generalize (⟨⟨txL n λi=>f (n-1-i)⟩⟩:ByteArray)=s at*
   simp(disch:=try exact jz)only[go_sem,z3,t0,t3,t4,hd,e2]
   refine(ab7 hF2.wf s e6).mono ?_
   rintro _ σ3 ⟨rfl,hF3⟩
   simp(disch:=try exact jz)only[go_sem,z3,e5]
   exact hF.trans (hF2.trans hF3)
  |succ k=>
   have t4:r8 tm 4=jN k:=t4
   have hd:decide (0<=k)=true:=aq (aM _)
   obtain⟨b,o,c,rfl,hld⟩:=hw.one jb
   have hld:=hF2.ld hF.wf (hld k jb)
   have sp:=oK (j:=k) jb
   have ha:=λcc kk nx (hc:σ1.aj≠cc) p q r s=>agR (ty:=5) (c:=cc) (k:=kk) (nx:=nx) (i:=n-(k+1)) p q r s hbk h4 jb hc
   simp(disch:=try exact jz)only[go_sem,z3,t0,t3,t4,hd,hld,sp,ha]
   refine⟨k,jb,iC H (n-(k+1)) (b4 (f k)),jb,by grind,rfl,rfl,Qn h4 rfl,λj hj=>?_,fr⟩
   by_cases e:j=n-(k+1)
   .grind[WJ]
   .exact(ae e).trans (hH j jb)
end Go.Proofs.Xe
namespace Go.Proofs.Ins
open Go.RowKit
def KW(n:Int)(h0:0<=n)(h1:n<2^32):IntKind.u32.wrap n=n:=by rw[IntKind.wrap_u32];omega
def aej(a b:Nat)(ha:a<2^32)(hb:b<2^32):bits .and .u32 (a:Int) b=((a&&&b:Nat):Int):=(bits_nat .u32 32 jj KW a b ha hb).1
def ao3(a b:Nat)(ha:a<2^32)(hb:b<2^32):bits .or .u32 (a:Int) b=((a|||b:Nat):Int):=(bits_nat .u32 32 jj KW a b ha hb).2
def WM(a b:Nat)(ha:a<2^32)(hb:b<2^32):bits .xor .u32 (a:Int) b=((a^^^b:Nat):Int):=by have ha':a%2^IntKind.u32.bits=a:=bA ha;have hb':b%2^IntKind.u32.bits=b:=bA hb;simp only[bits,BitVec.ofInt_natCast,BitVec.toNat_xor,BitVec.toNat_ofNat,ha',hb'];have h:=iA ha hb;exact KW _ (fT _) (by exact_mod_cast h)
def ab8{a:Nat}(h:a<2^32):a>>>31=0\/a>>>31=1:=by rw[Nat.shiftRight_eq_div_pow];omega
def ab9(x y d:Nat)(hx:x<2^32)(hy:y<2^32)(hd:d<2^32)(b:Nat)(hb:b<=1)(he:(d+y+b)%4294967296=x):
  (((4294967295^^^x)&&&y)|||((4294967295^^^(x^^^y))&&&d))/2147483648=if x<y+b then 1 else 0:=by
 have e:∀n,n/2147483648=n>>>31:=λn=>by rw[Nat.shiftRight_eq_div_pow]
 rw[e,Nat.shiftRight_or_distrib,Nat.shiftRight_and_distrib,Nat.shiftRight_and_distrib,ii,ii,ii]
 have m:4294967295>>>31=1:=by decide
 rw[m]
 have tx:=ab8 hx
 have ty:=ab8 hy
 have td:=ab8 hd
 have fx:x>>>31=x/2147483648:=(e x).symm
 have fy:y>>>31=y/2147483648:=(e y).symm
 have fd:d>>>31=d/2147483648:=(e d).symm
 rcases tx with tx|tx<;>rcases ty with ty|ty<;>rcases td with td|td<;>rw[tx,ty,td]<;>simp<;>omega
def acd(x y b:Int)(hx0:0<=x)(hx:x<=4294967295)(hy0:0<=y)(hy:y<=4294967295)(hb0:0<=b)(hb:b<=1):
  bits BinOp.or .u32 (bits BinOp.and .u32 (bits BinOp.xor .u32 IntKind.u32.max x) y) (bits BinOp.and .u32 (bits BinOp.xor .u32 IntKind.u32.max (bits BinOp.xor .u32 x y)) ((x-y-b)%4294967296))/2147483648
   =if x<y+b then 1 else 0:=by
 obtain⟨x,rfl⟩:=cw hx0
 obtain⟨y,rfl⟩:=cw hy0
 obtain⟨b,rfl⟩:=cw hb0
 obtain⟨d,hd⟩:=cw (show 0<=((x:Int)-y-b)%4294967296 by omega)
 have hd2:d<2^32:=jb
 have hm:IntKind.u32.max=((4294967295:Nat):Int):=by decide
 rw[hd,hm]
 have h1:(4294967295^^^x)<2^32:=iA jj jb
 have h2:(x^^^y)<2^32:=iA jb jb
 have h3:(4294967295^^^(x^^^y))<2^32:=iA jj h2
 rw[WM _ x jj jb,WM x y jb jb,WM _ _ jj h2,aej _ _ h1 jb,aej _ _ h3 hd2,
  ao3 _ _ (Nat.and_lt_two_pow _ jb) (Nat.and_lt_two_pow _ hd2)]
 have h4:=ab9 x y d jb jb hd2 b jb jb
 have h5:((2147483648:Int))=((2147483648:Nat):Int):=rfl
 rw[h5,<-Int.natCast_ediv,h4]
 split<;>split<;>omega
def brw(x y b:Int):Int:=if x<y+b then 1 else 0
set_option maxRecDepth 100000 in
def agS(x y b:Int)(w:World)(hx0:0<=x)(hx:x<=4294967295)(hy0:0<=y)(hy:y<=4294967295)(hb0:0<=b)(hb:b<=1):
  Calls Tryz.prog 195 #[.int .u32 x,.int .u32 y,.int .u32 b] w λe w'=>e=.returned (.tuple #[.int .u32 ((x-y-b)%4294967296),.int .u32 (brw x y b)])/\w=w':=by
 have H:=jx (acd x y b hx0 hx hy0 hy hb0 hb)
 go_enter Tryz.func195,Tryz.ntmps195
 go_wp2
 go_ret2
 refine⟨?_,rfl⟩
 unfold brw
 rw[<-H.out];rfl

end Go.Proofs.Ins
namespace Go.Proofs
open Go.Shelf
def Tryz.lays128_ren:Go.Shelf.Ren:=⟨λ|128=>184|n=>n,λ|51=>111|3=>3|4=>4|46=>65|5=>5|9=>9|n=>n,λ|n=>n⟩
def Tryz.lays133_ren:Go.Shelf.Ren:=⟨λ|133=>208|128=>184|n=>n,λ|51=>111|3=>3|4=>4|46=>65|5=>5|9=>9|n=>n,λ|n=>n⟩
def Tryz.lays133:Go.Proofs.Lays.n133 Tryz.prog Tryz.lays133_ren:={
  mixed:=by kernel_rfl
  f128:=Tryz.func184.trans (bp some (by kernel_rfl))
  f133:=Tryz.func208.trans (bp some (by kernel_rfl))
  t3:=Tryz.underlying3
  a3:=Tryz.isAgg3
  z3:=Tryz.sizeOf3
  v3:=Tryz.zeroValue3
  t4:=Tryz.underlying4
  a4:=Tryz.isAgg4
  z4:=Tryz.sizeOf4
  v4:=Tryz.zeroValue4
  t5:=Tryz.underlying5
  a5:=Tryz.isAgg5
  z5:=Tryz.sizeOf5
  v5:=Tryz.zeroValue5
  t9:=Tryz.underlying9
  a9:=Tryz.isAgg9
  z9:=Tryz.sizeOf9
  v9:=Tryz.zeroValue9
  t46:=Tryz.underlying65
  a46:=Tryz.isAgg65
  z46:=Tryz.sizeOf65
  v46:=Tryz.zeroValue65
  t51:=Tryz.underlying111
  a51:=Tryz.isAgg111
  z51:=Tryz.sizeOf111
  v51:=Tryz.zeroValue111 }
def Tryz.bits_LeadingZeros32(x:Int)(w:World)(h0:0<=x)(h1:x<=4294967295):
    Calls Tryz.prog 208 #[.int .u32 x] w λe w'=>e=.returned (.int .i64 (32-(Lib.bitLen x.toNat:Int)))/\w'=w:=Any.bits_LeadingZeros32 Tryz.lays133 x w h0 h1
end Go.Proofs
namespace Go.Proofs.Ins
open Go.RowKit
def ao4(x:Nat)(w:World)(h0:0<x)(h:x<LB):
  Calls Tryz.prog 208 #[.int .u32 (x:Int)] w λe w'=>e=.returned (.int .i64 (lz x:Nat))/\w=w':=by
 obtain⟨g1,g2,g3,g4⟩:=O8 32 x h jb h0
 refine(Tryz.bits_LeadingZeros32 (x:Int) w jb (by unfold LB at h;omega)).mono ?_
 rintro e w' ⟨he,hw⟩
 refine⟨he.trans (Iw ?_),hw.symm⟩
 unfold lz
 rw[ga];omega
def akc(r a:Nat)(hr:r<LB)(ha:a<LB):bits BinOp.or .u64 ((r:Int)*4294967296) a=((r*LB+a:Nat):Int):=by
 have h1:((r:Int)*4294967296)=((r*LB:Nat):Int):=by rw[awY];omega
 have h2:r*LB<2^64:=by unfold LB at*;omega
 have h3:a<2^64:=by unfold LB at*;omega
 rw[h1,(bits_nat .u64 64 jj (λn h0 h1=>IntWalk.u64_in n jb) (r*LB) a h2 h3).2];have e:LB=2^32:=rfl;rw[e]at*;rw[cR,<-ib ha]
end Go.Proofs.Ins
end
