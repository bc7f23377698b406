import Derived.Test.YtodnohicahohdaaGreatDoorYh12
import Derived.Shelf.Small.Bits
set_option linter.all false
set_option maxHeartbeats 8000000
noncomputable section
namespace Go.Proofs.Xe
open Go.RowKit Go.Proofs.Ins
def avh(j:IntKind)(a:Nat):H8 .u32 (.c (.int j (.ofNat a)))=some (.c (.int .u32 (.ofNat (a%4294967296)))):=by rfl
def azc(j:IntKind)(a:Nat):H8 .u8 (.c (.int j (.ofNat a)))=some (.c (.int .u8 (.ofNat (a%256)))):=by have h:IntKind.u8.wrap (Int.ofNat a)=Int.ofNat (a%256):=rfl;grind[H8,Ih,nV,Nat.le_of_ble_eq_true]
theorem MR{a:Nat}(h:a<18446744073709551616):IntKind.u64.wrap (Int.ofNat a)=Int.ofNat a:=by grind[IntKind.wrap_u64]
def asG{a:Nat}(h:a<4294967296):IntKind.u32.wrap (Int.ofNat a)=Int.ofNat a:=by grind[IntKind.wrap_u32]
def ahd(a b:Nat)(h:a+b<18446744073709551616):jk .add (.c (.int .u64 (.ofNat a))) (.c (.int .u64 (.ofNat b)))=some (.c (.int .u64 (.ofNat (a+b)))):=by show some (V.c (.int .u64 (IntKind.u64.wrap (Int.ofNat (a+b)))))=_;rw[MR h]
def ahe(a b:Nat):jk .add (.c (.int .u32 (.ofNat a))) (.c (.int .u32 (.ofNat b)))=some (.c (.int .u32 (.ofNat ((a+b)%4294967296)))):=by rfl
def ahf(a b:Nat)(h:a*b<18446744073709551616):jk .mul (.c (.int .u64 (.ofNat a))) (.c (.int .u64 (.ofNat b)))=some (.c (.int .u64 (.ofNat (a*b)))):=by show some (V.c (.int .u64 (IntKind.u64.wrap (Int.ofNat (a*b)))))=_;rw[MR h]
def ahg(a b:Nat)(h:a<18446744073709551616)(h2:b<=a):jk .sub (.c (.int .u64 (.ofNat a))) (.c (.int .u64 (.ofNat b)))=some (.c (.int .u64 (.ofNat (a-b)))):=by show some (V.c (.int .u64 (IntKind.u64.wrap (Int.ofNat a-Int.ofNat b))))=_;grind[MR]
def apM(a b:Nat)(h:0<b)(h2:a<18446744073709551616):jk .quo (.c (.int .u64 (.ofNat a))) (.c (.int .u64 (.ofNat b)))=some (.c (.int .u64 (.ofNat (a/b)))):=
 acw _ _ _ h (MR (cT (fk _ _) h2))
def asH(k j:IntKind)(a c:Nat):jk .shl (.c (.int k (.ofNat a))) (.c (.int j (.ofNat c)))=some (.c (.int k (k.wrap (Int.ofNat (a*2^min c k.bits))))):=by
 have e:jk .shl (.c (.int k (.ofNat a))) (.c (.int j (.ofNat c)))=V4 .shl k (.ofNat a) (.ofNat c):=by
  unfold jk;dsimp only;by_cases h:k=j
  .subst h;rw[aw rfl];rfl
  grind
 grind[V4]
def apN(j:IntKind)(a c:Nat)(hc:c<=64)(h:a*2^c<18446744073709551616):jk .shl (.c (.int .u64 (.ofNat a))) (.c (.int j (.ofNat c)))=some (.c (.int .u64 (.ofNat (a*2^c)))):=by rw[asH,show min c IntKind.u64.bits=c from im hc,MR h]
def apO(j:IntKind)(a c:Nat)(hc:c<=32)(h:a*2^c<4294967296):jk .shl (.c (.int .u32 (.ofNat a))) (.c (.int j (.ofNat c)))=some (.c (.int .u32 (.ofNat (a*2^c)))):=by rw[asH,show min c IntKind.u32.bits=c from im hc,asG h]
def Qp{a b s:Nat}(h:b<2^s):a*2^s|||b=a*2^s+b:=by rw[cW,<-ia h]
def akJ(a b s:Nat)(h:b<2^s)(h2:a*2^s+b<18446744073709551616):jk .or (.c (.int .u64 (.ofNat (a*2^s)))) (.c (.int .u64 (.ofNat b)))=some (.c (.int .u64 (.ofNat (a*2^s+b)))):=by rw[nX];unfold KH zU;dsimp only;rw[Ql .u64 _ b (by show _<18446744073709551616;omega) (by show b<18446744073709551616;omega),Qp h];exact br (λz=>some (V.c (.int .u64 z))) (MR h2)
def abz(a b s:Nat)(h:b<2^s)(h2:a*2^s+b<4294967296):jk .or (.c (.int .u32 (.ofNat b))) (.c (.int .u32 (.ofNat (a*2^s))))=some (.c (.int .u32 (.ofNat (b+a*2^s)))):=by rw[nX];unfold KH zU;dsimp only;rw[Ql .u32 b _ (by show b<4294967296;omega) (by show _<4294967296;omega),Nat.or_comm,Qp h,dC];exact br (λz=>some (V.c (.int .u32 z))) (asG jb)
def apP(a:Nat)(h:a<18446744073709551616):jk .and (.c (.int .u64 (.ofNat a))) (.c (.int .u64 (.ofNat 4294967295)))=some (.c (.int .u64 (.ofNat (a%4294967296)))):=by rw[nX];unfold KH zU;dsimp only;rw[aem .u64 a _ h jj,show a&&&4294967295=a%4294967296 from Nat.and_two_pow_sub_one_eq_mod a 32];exact br (λz=>some (V.c (.int .u64 z))) (MR jb)
def azd(k:IntKind)(a b:Nat):jk .lss (.c (.int k (.ofNat a))) (.c (.int k (.ofNat b)))=some (.c (.bool (decide (a<b)))):=by rw[nX,<-aC];rfl
def aze(k:IntKind)(a b:Nat):jk .gtr (.c (.int k (.ofNat a))) (.c (.int k (.ofNat b)))=some (.c (.bool (decide (b<a)))):=by rw[nX,<-aC];rfl
def azf(k:IntKind)(a b:Nat):jk .geq (.c (.int k (.ofNat a))) (.c (.int k (.ofNat b)))=some (.c (.bool (decide (b<=a)))):=by rw[nX,show decide (b<=a)=decide (Int.ofNat b<=Int.ofNat a) by simp];rfl
def IX(n:Nat)(f:Nat->Nat):List B:=bf n λi=>[.int .u32 (.ofNat (f i))]
def akK(n:Nat)(f:Nat->Nat)(i:Nat)(h:i<n):zT (IX n f) (i*1) 1 false=some (.c (.int .u32 (.ofNat (f i)))):=WE n (λi=>.int .u32 (.ofNat (f i))) i h
def akL(n:Nat)(f:Nat->Nat)(i v:Nat)(h:i<n):yc (IX n f) (i*1) [.int .u32 (.ofNat v)]=some (IX n (upd f i v)):=by refine(WG n (λi=>.int .u32 (.ofNat (f i))) i _ h).trans (br some ?_);exact bC λj _=>by grind[aO,upd]
def Gq{n:Nat}{f g:Nat->Nat}(h:∀i,i<n->f i=g i):IX n f=IX n g:=bC λi hi=>by grind
attribute [go_sem] avh azc ahd ahe ahf ahg apM apN apO akJ abz apP azd aze azf akK akL
def Oi{a b:Nat}(ha:a<LB)(hb:b<LB):a*2^32<18446744073709551616/\a*2^32+b<18446744073709551616:=by unfold LB at ha hb;rw[show(2:Nat)^32=4294967296 from rfl];omega
def apQ{b n m:Nat}(h:n<=m)(h0:0<m):DV 1 (.c (.sl b 0 m (.ex m))) none (some (jN n)) none=some (.c (.sl b 0 n (.ex m))):=by simp only[DV,Jr,En,nV h,nV (aR n),cG,bB,DF h0];rfl
def WU{h:Tr Bk}{b n e:Nat}{G:Nat->List B}{o:Option (Nat×Nat)}(hb:h b=some ⟨bf n G,o⟩)(hr:Yl o=true)(hG:∀j,(G j).length=e)(he:0<e)(hk:∀j,j<n->(G j).all B.kn=true){i:Nat}(hi:i<n):ld h b (0+i*e) e true=some (.agg (G i)):=by rw[ay hb,Qg,hr,bB,cx];have:=AQ (k:=0) (m:=e) true hG hi jb he;grind[zT,Ze]
def avi{h:Tr Bk}{b n e:Nat}{G:Nat->List B}{o:Option (Nat×Nat)}(c:Cap)(hb:h b=some ⟨bf n G,o⟩)(hr:Yl o=true)(hG:∀j,(G j).length=e)(he:0<e)(hk:∀j,j<n->(G j).all B.kn=true):HL h e (.sl b 0 n c) n G:=
 .inr ⟨b,0,c,rfl,λ_ hi=>WU hb hr hG he hk hi⟩
theorem rW{h:Tr Bk}{b o:Nat}{x:B}(e:ld h b o 1 true=some (.agg [x])):ld h b o 1 false=some (.c x)/\x.kn=true:=by grind[Go.Proofs.Xe.ld,Go.Proofs.Xe.zT,Nat.beq]
def HL.one{h:Tr Bk}{v:B}{n:Nat}{G:Nat->B}(hl:HL h 1 v n λi=>[G i])(hn:0<n):∃b o c,v=.sl b o n c/\∀i,i<n->ld h b (o+i*1) 1 false=some (.c (G i)):=by obtain⟨b,o,c,e,hld⟩:=hl.pos hn;grind[rW]
def ahh(G:Nat->List B)(i:Nat)(a b:List B):je (je G i a) i b=je G i b:=by grind[je]
def Qq{G:Nat->List B}{e i:Nat}{x:List B}(hG:∀j,(G j).length=e)(hx:x.length=e)(j:Nat):(je G i x j).length=e:=by grind[je]
def WV(G:Nat->List B)(i:Nat)(x:List B):je G i x i=x:=ab rfl
section
variable {E:Env} {tm:Tr V} {J:St} {K:V→St→Prop}
def akM(v:V):Option V:=match v with|.c (.str s)=>some (jN s.size)|_=>none
def avj(x:O):wpOp E (.slen x) tm J K=D9 (akM (x.ev tm)) λv=>K v J:=by rw[fP _ _ _ _ (by rfl) λ_ _ h=>by cases h];show D9 (ad8 x tm) _=_;grind[ad8,akM,jr]
def apR(s:ByteArray):akM (.c (.str s))=some (jN s.size):=rfl
def aex(v w:V):Option V:=match v,En w with|.c (.str s),some j=>(match s.data.toList[j]? with|some b=>some (.c (.int .u8 (.ofNat b.toNat)))|none=>none)|_,_=>none
def avk(x y:O):wpOp E (.Tz x y) tm J K=D9 (aex (x.ev tm) (y.ev tm)) λv=>K v J:=by rw[fP _ _ _ _ (by rfl) λ_ _ h=>by cases h];show D9 (ad9 x y tm) _=_;unfold ad9 aex;grind[jr]
def apS(s:ByteArray)(j:Nat)(h:j<s.size):aex (.c (.str s)) (jN j)=some (.c (.int .u8 (.ofNat (s.data.toList.getD j 0).toNat))):=by simp_all[Go.Proofs.Xe.aex,Go.Proofs.Xe.En]
def acD(v w:V):Option V:=match v,En w with|.c (.str s),some j=>bif Nat.ble j s.size then some (.c (.str ⟨⟨s.data.toList.drop j⟩⟩))else none|_,_=>none
def apT(x y:O):wpOp E (.Pv x y) tm J K=D9 (acD (x.ev tm) (y.ev tm)) λv=>K v J:=by rw[fP _ _ _ _ (by rfl) λ_ _ h=>by cases h];rfl
def akN(s:ByteArray)(j:Nat)(h:j<=s.size):acD (.c (.str s)) (jN j)=some (.c (.str ⟨⟨s.data.toList.drop j⟩⟩)):=by simp_all[acD,En,nV]
end
attribute [go_sem] avj apR avk apS apT akN
def apU(l:List UInt8)(k:Nat)(h:∀j,j<k->l.getD j 0=0):bv (l.drop k)=bv l:=by
 induction k generalizing l with
 |zero=>rfl
 |succ k ih=>
  cases l with
  |nil=>rfl
  |cons x l=>
   have hx:x=0:=by simpa using h 0 jb
   rw[List.drop_succ_cons,ih l (λj hj=>by grind),yx,hx]
   simp
abbrev EZ:Env:=Eb []
set_option maxRecDepth 100000
def ES:Ac 288:=.mk _
def Lc:Ac 305:=.mk _
def acE:Ac 290:=.mk _
def Qr:Ac 222:=.mk _
def Yn(h:Tr Bk)(v:B)(n:Nat)(f:Nat->Nat):Prop:=HL h 1 v n (λi=>[.int .u32 (.ofNat (f i))])/\agV v/\∀i,i<n->f i<LB
def Lm(N:Nat)(h:Tr Bk)(v:B)(x:Nat):Prop:=∃n f,n<=N/\Yn h v n f/\Ins.Can f n/\lv f n=x
theorem Yn.fr{J J':St}(hW:WF J)(hf:Fr J J'){v:B}{n:Nat}{f:Nat->Nat}(h:Yn J.h v n f):Yn J'.h v n f:=⟨h.1.fr hW hf,h.2⟩
theorem Lm.fr{J J':St}(hW:WF J)(hf:Fr J J'){N:Nat}{v:B}{x:Nat}(h:Lm N J.h v x):Lm N J'.h v x:=by obtain⟨n,f,h1,h2,h3⟩:=h;exact⟨n,f,h1,h2.fr hW hf,h3⟩
def Lm.mono{N M:Nat}{h:Tr Bk}{v:B}{x:Nat}(hl:Lm N h v x)(hN:N<=M):Lm M h v x:=by obtain⟨n,f,h1,h2⟩:=hl;exact⟨n,f,jb,h2⟩
theorem Lm.zero(N:Nat)(h:Tr Bk):Lm N h .aQ 0:=⟨0,λ_=>0,aR _,⟨.inl ⟨rfl,rfl⟩,trivial,λi hi=>jb⟩,⟨λi hi=>jb,.inl rfl⟩,rfl⟩
def Lm.kn{N:Nat}{h:Tr Bk}{v:B}{x:Nat}(hl:Lm N h v x):v.kn=true:=by obtain⟨n,f,h1,h2,h3⟩:=hl;exact h2.1.kn
def wE{h:Tr Bk}{b n:Nat}{f:Nat->Nat}{o:Option (Nat×Nat)}{c:Cap}(hb:h b=some ⟨IX n f,o⟩)(hr:Yl o=true)(hc:agV (.sl b 0 n c))(hf:∀i,i<n->f i<LB):Yn h (.sl b 0 n c) n f:=
 ⟨avi (G:=λi=>[.int .u32 (.ofNat (f i))]) c hb hr (λ_=>rfl) jj λ_ _=>rfl,hc,hf⟩
def Yn.one{h:Tr Bk}{v:B}{n:Nat}{f:Nat->Nat}(hl:Yn h v n f)(hn:0<n):∃b o c,v=.sl b o n c/\∀i,i<n->ld h b (o+i*1) 1 false=some (.c (.int .u32 (.ofNat (f i)))):=hl.1.one hn
def Yn.take{h:Tr Bk}{v:B}{n m:Nat}{f:Nat->Nat}(hl:Yn h v n f)(hm:m<=n):∃v',DV 1 (.c v) none (some (jN m)) none=some (.c v')/\Yn h v' m f:=by
 obtain⟨h1,h2,h3⟩:=hl;rcases h1 with⟨rfl,rfl⟩|⟨b,o,c,rfl,h1⟩
 .obtain rfl:m=0:=jb;exact⟨.aQ,rfl,.inl ⟨rfl,rfl⟩,trivial,λi hi=>jb⟩
 .by_cases hm0:m=0
  .subst hm0;have key:∃o' c',DV 1 (.c (.sl b o n c)) none (some (jN 0)) none=some (.c (.sl b o' 0 c')):=by
    cases c with
    |ex k=>
     by_cases hk:0<k
     .simp_all[DV,Jr,En,Nat.ble,DF]
     .exact⟨o,.any,by obtain rfl:k=0:=jb;rfl⟩
    |opn=>simp_all[DV,Jr,En,Nat.ble]
    |any=>
     simp_all[DV,Jr,En,Nat.ble]
   obtain⟨o',c',e⟩:=key;exact⟨_,e,.inr ⟨b,o',c',rfl,λi hi=>jb⟩,by cases c'<;>first|exact aR _|trivial,λi hi=>jb⟩
  .obtain⟨v',e,h4,h5⟩:=akj (v:=.sl b o n c) (n:=n) h2 (.inr ⟨b,o,c,rfl,jb⟩) hm 1;refine⟨v',e,?_,h4,λi hi=>h3 i jb⟩;rcases h5 with⟨h5,-⟩|⟨b',o',c1,c',e1,rfl⟩
   .omega
   .cases e1;exact .inr ⟨_,_,_,rfl,λi hi=>h1 i jb⟩
def prd(j:Nat):Int:=if j=0 then Int.negSucc 0 else Int.ofNat (j-1)
def wF{j:Nat}(h:j<=9223372036854775807):jk .sub (jN j) (jN 1)=some (.c (.int .i64 (prd j))):=by
 cases j with
 |zero=>rfl
 |succ j=>rw[ajD _ _ jb jb];rfl
def aey{l:List Nat}{k:Nat}(b:Ac k)(hb:b.a=Lc.a)(hk:l.contains k=false){J:St}(hW:WF J){v:B}{n:Nat}{f:Nat->Nat}(hl:Yn J.h v n f)(hn:n<=1073741824):aB (Eb l) k [.c v] J λr J'=>(∃v',r=.c v'/\Yn J'.h v' (AA f n) f)/\Fr J J':=by
 refine iF b hk ?_;rw[hb];unfold Lc;dsimp only;have hFr:=Fr.refl hW;have hlen:=hl.1.len;have hkn:=hl.1.kn;simp(disch:=try exact jz)only[go_sem,z3,hlen,hkn];refine aG (λx tm J'=>x<=n/\AA f x=AA f n/\r8 tm 0=.c v/\r8 tm 3=jN x/\Fr J J') n ?_ ?_
 .simp(disch:=try exact jz)only[go_sem,z3,am];exact⟨jp,hFr⟩
 .rintro x tm J' ⟨hx,he,t0,t3,hF⟩;cases x with
  |zero=>
   obtain⟨v',e,h2⟩:=hl.take (aR n)
   have e0:AA f n=0:=he.symm
   have hd:decide (0<0)=false:=rfl
   simp(disch:=try exact jz)only[go_sem,z3,t0,t3,hd,e]
   exact⟨⟨v',rfl,e0▸h2.fr hW hF⟩,hF⟩
  |succ k=>
   obtain⟨b,o,c,rfl,hld⟩:=hl.one jb
   have hld:=hF.ld hW (hld k jb)
   have hd:decide (0<k+1)=true:=aw jb
   have e1:k+1-1=k:=rfl
   by_cases h0:f k=0
   .have hd2:decide (f k=0)=true:=aw h0
    simp(disch:=try exact jz)only[go_sem,z3,t0,t3,hd,e1,hld,hd2]
    exact⟨k,jb,jb,(show AA f (k+1)=AA f k from ab h0).symm.trans he,rfl,hF⟩
   .have hd2:decide (f k=0)=false:=ap h0
    have e2:AA f n=k+1:=he.symm.trans (ae h0)
    obtain⟨v',e,h2⟩:=hl.take (m:=k+1) jb
    simp(disch:=try exact jz)only[go_sem,z3,t0,t3,hd,e1,hld,hd2,e]
    exact⟨⟨v',rfl,e2▸h2.fr hW hF⟩,hF⟩
section
variable {dw bU tm:Tr V} {i:Nat} {us os:List Nat} {d:Option Nat} {g9:Option (Nat×Bool)} {l:List DO} {J:St} {v:V}
def apW(x:O):again J ⟨i,⟨d,g9,.slen x⟩,tm,v,true,none⟩=true:=jl _ _ _ _ _ _ _ rfl rfl
def apX(x y:O):again J ⟨i,⟨d,g9,.Tz x y⟩,tm,v,true,none⟩=true:=jl _ _ _ _ _ _ _ rfl rfl
end
section
variable {dw bU:Tr V} {i:Nat} {us os:List Nat} {d:Option Nat} {g9:Option (Nat×Bool)} {l:List DO} {J:St} {res} {pd} {K}
def apY(x:O):wU dw bU (⟨i,us,os,⟨d,g9,.slen x⟩⟩::l) J res pd K=qR g9 dw bU res us os J pd i d (.slen x) l K:=qp E0 _ _ _ _ _ _ _ _ _ _ _ _ _ rfl
def apZ(x y:O):wU dw bU (⟨i,us,os,⟨d,g9,.Tz x y⟩⟩::l) J res pd K=qR g9 dw bU res us os J pd i d (.Tz x y) l K:=qp E0 _ _ _ _ _ _ _ _ _ _ _ _ _ rfl
end
attribute [go_sem] apW apX apY apZ
set_option maxRecDepth 100000
def Qs:Ac 219:=.mk _
def UE:Ac 293:=.mk _
section
variable {E:Env} {tm:Tr V} {J:St} {K:V→St→Prop}
def ZA(J:St)(v:V):Option V:=match v with
 |.c (.sl b o n (.ex _))=>(match J.h.get b with
  |some k=>bif k.rd&&Nat.ble (o+n) k.cells.length then(match byL ((k.cells.drop o).take n)with|some l=>some (.c (.str ⟨⟨l⟩⟩))|none=>none)else none
  |none=>none)
 |_=>none
def avl(x:O):wpOp E (.YF x) tm J K=D9 (ZA J (x.ev tm)) λv=>K v J:=by rw[fP _ _ _ _ (by rfl) λ_ _ h=>by cases h];rfl
end
attribute [go_sem] avl
def b4(x:Nat):List B:=[.int .u8 (.ofNat (x/2^24%256)),.int .u8 (.ofNat (x/2^16%256)),.int .u8 (.ofNat (x/2^8%256)),.int .u8 (.ofNat (x%256))]
def u4(x:Nat):List UInt8:=[UInt8.ofNat (x/2^24%256),UInt8.ofNat (x/2^16%256),UInt8.ofNat (x/2^8%256),UInt8.ofNat (x%256)]
def txL:Nat->(Nat->Nat)->List UInt8
 |0,_=>[]
 |n+1,g=>u4 (g 0)++txL n λi=>g (i+1)
def WW:∀(n:Nat) (g:Nat->Nat),(txL n g).length=4*n
 |0,_=>rfl
 |n+1,g=>by rw[txL,az,WW n];show 4+4*n=_;omega
def azg{x:Nat}(h:x<LB):bv (u4 x)=x:=by
 have e:∀y,(UInt8.ofNat (y%256)).toNat=y%256:=λy=>by simp
 show(((0*256+(UInt8.ofNat _).toNat)*256+(UInt8.ofNat _).toNat)*256+(UInt8.ofNat _).toNat)*256+(UInt8.ofNat _).toNat=x;grind[LB]
def akP:∀(n:Nat) (f:Nat->Nat),(∀j,j<n->f j<LB)->bv (txL n λi=>f (n-1-i))=lv f n
 |0,_,_=>rfl
 |n+1,f,h=>by rw[txL,Ue,WW,azg (h _ jb),eG,VI];have:=akP n f λj hj=>h j jb;rw[show(λi=>f (n+1-1-(i+1)))=λi=>f (n-1-i)from funext λi=>by congr 1;omega,this,show n+1-1-0=n from rfl,cW,dC]
def aez:∀(n:Nat) (g:Nat->Nat),byL (bf n λi=>b4 (g i))=some (txL n g)
 |0,_=>rfl
 |n+1,g=>by have:=aez n λi=>g (i+1);show(match(match(match(match byL (bf n λi=>b4 (g (i+1)))with|some l=>some (_::l)|none=>none)with|some l=>some (_::l)|none=>none)with|some l=>some (_::l)|none=>none)with|some l=>some (UInt8.ofNat _::l)|none=>none)=_;rw[this];rfl
def azh(x:B):∀n,rep [x] (n*4)=bf n λ_=>[x,x,x,x]
 |0=>rfl
 |n+1=>by
  have:=azh x n;rw[show(n+1)*4=n*4+1+1+1+1 by omega];show [x]++([x]++([x]++([x]++rep [x] (n*4))))=[x,x,x,x]++bf n λ_=>[x,x,x,x]
  rw[this];rfl
theorem wr4{l:List B}(h:l.length=4)(a b c d:B):yc l 0 [a,b,c,d]=some [a,b,c,d]:=by
 match l,h with
 |[_,_,_,_],_=>rfl
def ahj{ty b n i nx c:Nat}{H:Nat->List B}{h:Tr Bk}{k:Bk}(p q r s:B)(hb:h b=some ⟨bf n H,none⟩)(hH:∀j,(H j).length=4)(hi:i<n)(hc:b≠c):
  sH ty 1 1 (.c (.sl b 0 (i*4) (.ex (n*4)))) 4 [p,q,r,s] ⟨hset h c k,nx⟩=some (.c (.sl b 0 ((i+1)*4) (.ex (n*4))),⟨hset (hset h c k) b ⟨bf n (je H i [p,q,r,s]),none⟩,nx⟩):=by
 have e1:(hset h c k).get b=some ⟨bf n H,none⟩:=(au _ _ _ _ hc).trans hb
 have e2:yc (bf n H) (i*4*1) [p,q,r,s]=some (bf n (je H i [p,q,r,s])):=by have:=yP (k:=0) (vs:=[p,q,r,s]) hH hi (cL 4);grind[wr4]
 have e3:Nat.blt (n*4) (i*4+4)=false:=by
  cases e:Nat.blt (n*4) (i*4+4)with
  |false=>rfl
  |true=>have:=ax e;omega
 have e4:Nat.ble (i*4+4) (n*4)=true:=nV jb
 unfold sH
 dsimp only
 rw[e1]
 dsimp only
 rw[e2,e3,e4]
 simp only[Bool.and_false,Bool.false_and,dT,Bool.and_true,show Nat.beq 4 0=false from rfl,show Nat.beq 0 0=true from rfl,Bk.pl,bB,jr]
 rw[cf]
 rfl
end Go.Proofs.Xe
namespace Go.Proofs.Ins
open Go.RowKit
def Ld(n:Int)(h0:0<=n)(h1:n<2^32):IntKind.u32.wrap n=n:=by rw[IntKind.wrap_u32];omega
def aeA(a b:Nat)(ha:a<2^32)(hb:b<2^32):bits .and .u32 (a:Int) b=((a&&&b:Nat):Int):=(bits_nat .u32 32 jj Ld a b ha hb).1
def ap0(a b:Nat)(ha:a<2^32)(hb:b<2^32):bits .or .u32 (a:Int) b=((a|||b:Nat):Int):=(bits_nat .u32 32 jj Ld a b ha hb).2
def WX(a b:Nat)(ha:a<2^32)(hb:b<2^32):bits .xor .u32 (a:Int) b=((a^^^b:Nat):Int):=by have ha':a%2^IntKind.u32.bits=a:=cB ha;have hb':b%2^IntKind.u32.bits=b:=cB hb;simp only[bits,BitVec.ofInt_natCast,BitVec.toNat_xor,BitVec.toNat_ofNat,ha',hb'];have h:=ir ha hb;exact Ld _ (fj _) (by exact_mod_cast h)
def acF{a:Nat}(h:a<2^32):a>>>31=0\/a>>>31=1:=by rw[Nat.shiftRight_eq_div_pow];omega
def acG(x y d:Nat)(hx:x<2^32)(hy:y<2^32)(hd:d<2^32)(b:Nat)(hb:b<=1)(he:(d+y+b)%4294967296=x):
  (((4294967295^^^x)&&&y)|||((4294967295^^^(x^^^y))&&&d))/2147483648=if x<y+b then 1 else 0:=by
 have e:∀n,n/2147483648=n>>>31:=λn=>by rw[Nat.shiftRight_eq_div_pow]
 rw[e,Nat.shiftRight_or_distrib,Nat.shiftRight_and_distrib,Nat.shiftRight_and_distrib,ii,ii,ii]
 have m:4294967295>>>31=1:=by decide
 rw[m]
 have tx:=acF hx
 have ty:=acF hy
 have td:=acF hd
 have fx:x>>>31=x/2147483648:=(e x).symm
 have fy:y>>>31=y/2147483648:=(e y).symm
 have fd:d>>>31=d/2147483648:=(e d).symm
 rcases tx with tx|tx<;>rcases ty with ty|ty<;>rcases td with td|td<;>rw[tx,ty,td]<;>simp<;>omega
def acH(x y b:Int)(hx0:0<=x)(hx:x<=4294967295)(hy0:0<=y)(hy:y<=4294967295)(hb0:0<=b)(hb:b<=1):
  bits BinOp.or .u32 (bits BinOp.and .u32 (bits BinOp.xor .u32 IntKind.u32.max x) y) (bits BinOp.and .u32 (bits BinOp.xor .u32 IntKind.u32.max (bits BinOp.xor .u32 x y)) ((x-y-b)%4294967296))/2147483648
   =if x<y+b then 1 else 0:=by
 obtain⟨x,rfl⟩:=ck hx0
 obtain⟨y,rfl⟩:=ck hy0
 obtain⟨b,rfl⟩:=ck hb0
 obtain⟨d,hd⟩:=ck (show 0<=((x:Int)-y-b)%4294967296 by omega)
 have hd2:d<2^32:=jb
 have hm:IntKind.u32.max=((4294967295:Nat):Int):=by decide
 rw[hd,hm]
 have h1:(4294967295^^^x)<2^32:=ir jj jb
 have h2:(x^^^y)<2^32:=ir jb jb
 have h3:(4294967295^^^(x^^^y))<2^32:=ir jj h2
 rw[WX _ x jj jb,WX x y jb jb,WX _ _ jj h2,aeA _ _ h1 jb,aeA _ _ h3 hd2,
  ap0 _ _ (Nat.and_lt_two_pow _ jb) (Nat.and_lt_two_pow _ hd2)]
 have h4:=acG x y d jb jb hd2 b jb jb
 have h5:((2147483648:Int))=((2147483648:Nat):Int):=rfl
 rw[h5,<-Int.natCast_ediv,h4]
 split<;>split<;>omega
def brw(x y b:Int):Int:=if x<y+b then 1 else 0
set_option maxRecDepth 100000 in
def ahk(x y b:Int)(w:World)(hx0:0<=x)(hx:x<=4294967295)(hy0:0<=y)(hy:y<=4294967295)(hb0:0<=b)(hb:b<=1):
  Calls Tryz.prog 340 #[.int .u32 x,.int .u32 y,.int .u32 b] w λe w'=>e=.returned (.tuple #[.int .u32 ((x-y-b)%4294967296),.int .u32 (brw x y b)])/\w=w':=by
 have H:=jx (acH x y b hx0 hx hy0 hy hb0 hb)
 go_enter Tryz.func340,Tryz.ntmps340
 go_wp2
 go_ret2
 refine⟨?_,rfl⟩
 unfold brw
 rw[<-H.out];rfl

end Go.Proofs.Ins
namespace Go.Proofs
open Go.Shelf
def Tryz.lays128_ren:Go.Shelf.Ren:=⟨λ|128=>337|n=>n,λ|51=>310|3=>3|4=>4|46=>131|5=>5|9=>9|n=>n,λ|n=>n⟩
def Tryz.lays133_ren:Go.Shelf.Ren:=⟨λ|133=>324|128=>337|n=>n,λ|51=>310|3=>3|4=>4|46=>131|5=>5|9=>9|n=>n,λ|n=>n⟩
def Tryz.lays133:Go.Proofs.Lays.n133 Tryz.prog Tryz.lays133_ren:={
  mixed:=by kernel_rfl
  f128:=Tryz.func337.trans (br some (by kernel_rfl))
  f133:=Tryz.func324.trans (br some (by kernel_rfl))
  t3:=Tryz.underlying3
  a3:=Tryz.isAgg3
  z3:=Tryz.sizeOf3
  v3:=Tryz.zeroValue3
  t4:=Tryz.underlying4
  a4:=Tryz.isAgg4
  z4:=Tryz.sizeOf4
  v4:=Tryz.zeroValue4
  t5:=Tryz.underlying5
  a5:=Tryz.isAgg5
  z5:=Tryz.sizeOf5
  v5:=Tryz.zeroValue5
  t9:=Tryz.underlying9
  a9:=Tryz.isAgg9
  z9:=Tryz.sizeOf9
  v9:=Tryz.zeroValue9
  t46:=Tryz.underlying131
  a46:=Tryz.isAgg131
  z46:=Tryz.sizeOf131
  v46:=Tryz.zeroValue131
  t51:=Tryz.underlying310
  a51:=Tryz.isAgg310
  z51:=Tryz.sizeOf310
  v51:=Tryz.zeroValue310 }
def Tryz.bits_LeadingZeros32(x:Int)(w:World)(h0:0<=x)(h1:x<=4294967295):
    Calls Tryz.prog 324 #[.int .u32 x] w λe w'=>e=.returned (.int .i64 (32-(Lib.bitLen x.toNat:Int)))/\w'=w:=Any.bits_LeadingZeros32 Tryz.lays133 x w h0 h1
end Go.Proofs
namespace Go.Proofs.Ins
open Go.RowKit
def ap1(x:Nat)(w:World)(h0:0<x)(h:x<LB):
  Calls Tryz.prog 324 #[.int .u32 (x:Int)] w λe w'=>e=.returned (.int .i64 (lz x:Nat))/\w=w':=by
 obtain⟨g1,g2,g3,g4⟩:=Pn 32 x h jb h0
 refine(Tryz.bits_LeadingZeros32 (x:Int) w jb (by unfold LB at h;omega)).mono ?_
 rintro e w' ⟨he,hw⟩
 refine⟨he.trans (I7 ?_),hw.symm⟩
 unfold lz
 rw[gb];omega
def akJ(r a:Nat)(hr:r<LB)(ha:a<LB):bits BinOp.or .u64 ((r:Int)*4294967296) a=((r*LB+a:Nat):Int):=by
 have h1:((r:Int)*4294967296)=((r*LB:Nat):Int):=by rw[axR];omega
 have h2:r*LB<2^64:=by unfold LB at*;omega
 have h3:a<2^64:=by unfold LB at*;omega
 rw[h1,(bits_nat .u64 64 jj (λn h0 h1=>IntWalk.u64_in n jb) (r*LB) a h2 h3).2];have e:LB=2^32:=rfl;rw[e]at*;rw[cW,<-ia ha]
end Go.Proofs.Ins
end
