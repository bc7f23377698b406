import Derived.WalkKit
import Derived.WalkSpells
import Derived.WalkLawsBesides
import Derived.Maps.AppendAt
import Derived.Laws.BytesArg
import Derived.StillTail
import Derived.Lib.QuietBelow
import Derived.BigQuiet
import Derived.StillTailTactics
import Derived.IntWalk
import Derived.Lib.Hide
theorem Go.Proofs.jb{p:Prop}(h:p:=by omega):p:=h
theorem Go.Proofs.jj{p:Prop}(h:p:=by decide):p:=h
theorem Go.Proofs.kc{p:Prop}(h:p:=by simp):p:=h
theorem Go.Proofs.kf{p:Prop}(h:p:=by first|omega|(dsimp only;omega)):p:=h
theorem Go.Proofs.kg{p:Prop}(h:p:=by first|(left;omega)|(left;dsimp only;omega)|(right;simp)):p:=h
theorem Go.Proofs.kd{p:Prop}(h:p:=by grind):p:=h
theorem Go.Proofs.jz{p:Prop}(h:p:=by first|assumption|decide|omega):p:=h
theorem Go.Proofs.jp{n:Nat}:n<=n:=Nat.le_refl n
theorem Go.Proofs.jx{p:Prop}(h:p):Go.RowKit.Hid p:=h
set_option linter.all false
namespace Go.Proofs
def ab:=@if_neg
def ae:=@if_pos
def af:=@Bool.and_eq_true
def am:=@true_and
def ap:=@Nat.le_trans
def aw:=@Nat.eq_of_beq_eq_true
def az:=@decide_eq_false
def aD:=@List.length_append
def aE:=@Nat.le_of_ble_eq_true
def aL:=@List.getElem_of_mem
def aM:=@Nat.lt_of_lt_of_le
def aR:=@Nat.dvd_mul_right
def aY:=@Rat.le_refl
def be:=@decide_eq_true
def bh:=@Option.some.injEq
def bj:=@Rat.mul_le_mul_of_nonneg_right
def bp:=@Nat.mul_le_mul_right
def br:=@Nat.zero_le
def bw:=@Rat.natCast_le_natCast
def bz:=@Classical.byContradiction
def bA:=@List.mem_cons
def bB:=@Nat.pow_le_pow_right
def bL:=@List.length_cons
def bN:=@Nat.dvd_trans
def bO:=@congrArg
def bR:=@Nat.lt_succ_self
def bX:=@congrFun
def bZ:=@List.length_singleton
def ce:=@List.mem_append
def cf:=@Rat.mul_nonneg
def cg:=@Nat.mul_pos
def cj:=@Nat.succ_mul
def ck:=@cond_true
def cn:=@Int.eq_ofNat_of_zero_le
def cw:=@Nat.mul_le_mul_left
def cA:=@List.length_map
def cB:=@Nat.add_zero
def cC:=@List.take_length
def cD:=@List.all_cons
def cE:=@List.mem_flatMap
def cF:=@Nat.mul_dvd_mul_left
def cG:=@List.getD_eq_getElem?_getD
def cH:=@Nat.mul_le_mul
def cI:=@List.take_zero
def cK:=@Array.length_toList
def cL:=@Nat.zero_add
def cM:=@Rat.le_trans
def cN:=@Nat.lt_succ_iff_lt_or_eq
def cP:=@Nat.le_refl
def cQ:=@of_decide_eq_true
def cR:=@List.flatMap_append
def cT:=@Rat.mul_le_mul_of_nonneg_left
def cU:=@Bool.and_self
def cV:=@Nat.lt_of_le_of_lt
def cW:=@List.mem_map
def cY:=@Rat.add_zero
def da:=@Prod.mk.injEq
def dc:=@Rat.intCast_mul
def de:=@Bool.false_eq_true
def df:=@Rat.div_mul_cancel
def di:=@Nat.mod_lt
def dj:=@List.all_nil
def dp:=@List.length_take
def dq:=@Nat.pow_pos
def dt:=@List.mem_singleton
def du:=@Nat.div_add_mod
def dx:=@List.append_nil
def dy:=@List.any_eq_true
def dC:=@Nat.pow_succ
def dE:=@Nat.mul_comm
def dT:=@Nat.div_lt_of_lt_mul
def dY:=@Int.ofNat_eq_natCast
def ec:=@Rat.mul_lt_mul_of_pos_right
def eg:=@Nat.pow_add
def eh:=@Nat.le_succ
def eo:=@Rat.le_of_lt
def et:=@List.mem_of_mem_take
def eA:=@Option.some.inj
def eC:=@Int.natCast_mul
def eE:=@Nat.eq_zero_or_pos
def eI:=@Nat.mul_lt_mul_of_pos_right
def eJ:=@List.all_eq_true
def eL:=@Nat.mod_eq_of_lt
def eM:=@Array.getElem?_eq_some_iff
def eN:=@Nat.add_comm
def eO:=@List.take_of_length_le
def eQ:=@Int.toNat_of_nonneg
def eV:=@Rat.natCast_mul
def eZ:=@Rat.intCast_inj
def fa:=@Nat.ble_eq_true_of_le
def fe:=@eq_self
def ff:=@List.eq_nil_of_length_eq_zero
def fg:=@Nat.pos_of_ne_zero
def fh:=@Int.natAbs_mul
def fi:=@decide_eq_true_eq
def fj:=@List.range_succ
def fm:=@Nat.div_le_self
def fo:=@List.take_succ_cons
def fq:=@cond_false
def ft:=@List.length_drop
def fu:=@List.cons_append
def fv:=@Nat.mul_one
def fw:=@List.getElem?_eq_getElem
def fM:=@Nat.lt_or_ge
def fR:=@List.mem_filter
def fS:=@List.nodup_append
def fT:=@Nat.mul_assoc
def fW:=@Nat.le_mul_of_pos_right
def fX:=@List.mem_range
def fY:=@Rat.intCast_le_intCast
def ga:=@Array.getD_eq_getD_getElem?
def gb:=@Rat.mul_comm
def gc:=@Rat.natCast_add
def gd:=@Int.tdiv_eq_ediv_of_nonneg
def gh:=@Nat.lt_of_mul_lt_mul_right
def gi:=@Int.toNat_natCast
def gj:=@List.size_toArray
def gm:=@List.flatMap_cons
def gn:=@decide_true
def gp:=@List.drop_zero
def gw:=@Nat.div_eq_of_lt
def gx:=@Nat.le_of_eq
def gA:=@Rat.zero_add
def gC:=@Nat.dvd_mul_left
def gH:=@List.length_eq_zero_iff
def gL:=@Nat.le_of_dvd
def gN:=@List.nil_append
def gO:=@Rat.sub_eq_add_neg
def gP:=@List.nodup_cons
def gR:=@Rat.mul_eq_zero
def gS:=@Rat.not_lt
def gT:=@Bool.eq_iff_iff
def hJ:=@Nat.one_le_two_pow
def ia:=@Int.natAbs_natCast
def ib:=@Nat.add_mul
def ic:=@List.take_append_of_le_length
def ie:=@List.length_range
def ii:=@Bool.not_eq_true'
def ij:=@List.append_assoc
def ik:=@Array.getElem?_setIfInBounds
def il:=@Nat.le_of_lt
def im:=@Nat.zero_mul
def io:=@Nat.dvd_refl
def ip:=@Nat.two_pow_add_eq_or_of_lt
def ir:=@Int.natCast_ediv
def it:=@List.mem_append_left
def iu:=@List.flatMap_map
def iz:=@Int.tmod_eq_emod_of_nonneg
def iA:=@Nat.shiftRight_xor_distrib
def iB:=@Rat.add_assoc
def iN:=@List.nodup_iff_pairwise_ne
def iS:=@Rat.one_mul
def iX:=@List.map_congr_left
def ja:=@List.pairwise_iff_getElem
def jn:=@List.length_set
def js:=@Nat.xor_lt_two_pow
def jt:=@List.drop_drop
end Go.Proofs
namespace Go.Proofs.Ins
def LB:Nat:=4294967296
theorem lT:0<LB:=by unfold LB;omega
def Dh:LB=4294967296:=rfl
def lv(f:Nat->Nat):Nat->Nat
 |0=>0
 |k+1=>lv f k+LB^k*f k
def alX(f:Nat->Nat):lv f 0=0:=rfl
theorem gI(f:Nat->Nat)(k:Nat):lv f (k+1)=lv f k+LB^k*f k:=rfl
theorem rM{f g:Nat->Nat}{n:Nat}(h:∀j,j<n->f j=g j):lv f n=lv g n:=by
 induction n with
 |zero=>rfl
 |succ k ih=>grind[gI]
def KL{f:Nat->Nat}{n:Nat}(h:∀j,j<n->f j<LB):lv f n<LB^n:=by
 induction n with
 |zero=>simp[lv]
 |succ k ih=>
  have h1:=ih (λj hj=>h j jb)
  have h2:=h k jb
  have h3:LB^k*f k+LB^k<=LB^k*LB:=by rw[<-Nat.mul_succ];exact cw _ h2
  rw[gI,dC];omega
theorem xR(f:Nat->Nat)(n m:Nat):lv f (n+m)=lv f n+LB^n*lv (λj=>f (n+j)) m:=by
 induction m with
 |zero=>simp[lv]
 |succ k ih=>
  grind[gI]
theorem Xg(f:Nat->Nat)(m:Nat):lv f (m+1)=f 0+LB*lv (λj=>f (j+1)) m:=by have h:=xR f 1 m;grind[lv]
theorem NJ{f:Nat->Nat}{n:Nat}(h:∀j,j<n->f j=0):lv f n=0:=by
 induction n with
 |zero=>rfl
 |succ k ih=>grind[gI]
def Ux{f:Nat->Nat}{n m:Nat}(hn:n<=m)(h:∀j,n<=j->j<m->f j=0):lv f m=lv f n:=by grind[Nat.exists_eq_add_of_le,xR,NJ]
def upd(f:Nat->Nat)(i v:Nat):Nat->Nat:=λj=>if j=i then v else f j
theorem upd_same(f:Nat->Nat)(i v:Nat):upd f i v i=v:=by simp[upd]
theorem dh(f:Nat->Nat)(i v:Nat){j:Nat}(h:j≠i):upd f i v j=f j:=by simp[upd,h]
theorem xM(f:Nat->Nat){i v n:Nat}(h:n<=i):lv (upd f i v) n=lv f n:=
 rM λj hj=>dh f i v jb
theorem aac(f:Nat->Nat){i v n:Nat}(h:i<n):lv (upd f i v) n+LB^i*f i=lv f n+LB^i*v:=by
 induction n with
 |zero=>omega
 |succ k ih=>
  grind[gI,xM,upd_same,dh]
def Can(f:Nat->Nat)(n:Nat):Prop:=(∀j,j<n->f j<LB)/\(n=0\/f (n-1)≠0)
def Can.ge{f:Nat->Nat}{n:Nat}(h:Can f n)(hn:0<n):LB^(n-1)<=lv f n:=by
 obtain⟨k,rfl⟩:∃k,n=k+1:=⟨n-1,jb⟩
 have h2:f k≠0:=by rcases h.2 with h|h;omega;grind
 rw[gI];have h3:1<=f k:=jb;have:=cw (LB^k) h3;grind
def Can.lt{f:Nat->Nat}{n:Nat}(h:Can f n):lv f n<LB^n:=KL h.1
def Can.vK{f:Nat->Nat}{n:Nat}(h:Can f n):lv f n=0↔n=0:=by
 constructor
 .intro h0;by_cases hn:n=0
  .exact hn
  .have:=h.ge jb;grind[lT]
 .rintro rfl;rfl
def Can.Uy{f g:Nat->Nat}{n m:Nat}(hf:Can f n)(hg:Can g m)(h:n<m):lv f n<lv g m:=by have h1:=hf.lt;have h2:=hg.ge jb;have h3:LB^n<=LB^(m-1):=bB lT jb;omega
def Ia{f g:Nat->Nat}{n k:Nat}(hf:∀j,j<n->f j<LB)(hg:∀j,j<n->g j<LB)
  (hk:k<n) (he:∀j,k<j->j<n->f j=g j) (hlt:f k<g k):lv f n<lv g n:=by
 obtain⟨d,rfl⟩:=Nat.exists_eq_add_of_le (show k+1<=n by omega)
 rw[xR f,xR g,rM (f:=λj=>f (k+1+j)) (g:=λj=>g (k+1+j)) (λj hj=>he _ jb jb),gI,gI]
 have h1:=KL (f:=f) (n:=k) (λj hj=>hf j jb)
 have h2:LB^k*f k+LB^k<=LB^k*g k:=by rw[<-Nat.mul_succ];exact cw _ hlt
 omega
def Gu(f:Nat->Nat):Nat->Nat
 |0=>0
 |k+1=>if f k=0 then Gu f k else k+1
theorem y8(f:Nat->Nat)(n:Nat):Gu f n<=n:=by
 induction n with
 |zero=>simp[Gu]
 |succ k ih=>grind[Gu]
def Jz(f:Nat->Nat)(n:Nat):∀j,Gu f n<=j->j<n->f j=0:=by
 induction n with
 |zero=>omega
 |succ k ih=>
  grind[Gu]
def NK(f:Nat->Nat)(n:Nat):Gu f n=0\/f (Gu f n-1)≠0:=by
 induction n with
 |zero=>simp[Gu]
 |succ k ih=>
  grind[Gu]
def Xh{f:Nat->Nat}{n:Nat}(h:∀j,j<n->f j<LB):Can f (Gu f n):=
 ⟨λj hj=>h j (by grind[y8]),NK f n⟩
def acu(f:Nat->Nat)(n:Nat):lv f (Gu f n)=lv f n:=(Ux (y8 f n) (Jz f n)).symm
def bv(l:List UInt8):Nat:=l.foldl (λa b=>a*256+b.toNat) 0
theorem aqT:bv []=0:=rfl
def alY(l:List UInt8)(b:UInt8):bv (l++[b])=bv l*256+b.toNat:=by grind[bv]
def aew(l r:List UInt8):bv (l++r)=bv l*256^r.length+bv r:=by
 have h:∀(r:List UInt8) (a:Nat),r.foldl (λa b=>a*256+b.toNat) a=a*256^r.length+r.foldl (λa b=>a*256+b.toNat) 0:=by
  intro r;induction r with
  |nil=>simp
  |cons b r ih=>
   grind
 grind[bv]
def y9(b:UInt8)(l:List UInt8):bv (b::l)=b.toNat*256^l.length+bv l:=by have h:=aew [b] l;grind[bv]
def KN(l:List UInt8):bv l<256^l.length:=by
 induction l with
 |nil=>simp[bv]
 |cons b l ih=>
  rw[y9,bL,dC]
  have h1:=b.toNat_lt
  have h2:b.toNat*256^l.length+256^l.length<=256*256^l.length:=by rw[<-cj];exact bp _ jb
  omega
def bnF:Nat->Nat->List UInt8
 |0,_=>[]
 |k+1,n=>if n=0 then []else bnF k (n/256)++[UInt8.ofNat (n%256)]
def NM(n:Nat):List UInt8:=bnF n n
theorem ag2:∀(k n:Nat),n<=k->bv (bnF k n)=n:=by
 intro k;induction k with
 |zero=>
  intro n h;have:n=0:=jb
  subst this;rfl
 |succ k ih=>
  intro n h
  unfold bnF
  split
  .rename_i h0;subst h0;rfl
  .rw[alY,ih (n/256) jb]
   have:(UInt8.ofNat (n%256)).toNat=n%256:=by simp
   omega
def Uz(n:Nat):bv (NM n)=n:=ag2 n n jp
def ag3:∀(k n:Nat),n<=k->(bnF k n).head?≠some 0:=by
 intro k;induction k with
 |zero=>grind[bnF]
 |succ k ih=>
  intro n h
  unfold bnF
  split
  .simp
  .rename_i h0
   by_cases h1:n/256=0
   .have:bnF k (n/256)=[]:=by rw[h1];cases k<;>simp[bnF]
    rw[this]
    simp only[gN,List.head?_cons,ne_eq,bh]
    intro h2
    have h3:(UInt8.ofNat (n%256)).toNat=0:=by simp_all
    have:(UInt8.ofNat (n%256)).toNat=n%256:=by simp
    omega
   .have h2:=ih (n/256) jb
    rw[List.head?_append]
    cases h3:(bnF k (n/256)).head? with
    |none=>
     have:bnF k (n/256)=[]:=by simp_all
     grind[ag2,bv]
    |some b=>grind
def NP(n:Nat):(NM n).head?≠some 0:=ag3 n n jp
def Xi{l:List UInt8}(h:l.head?≠some 0)(hl:l≠[]):256^(l.length-1)<=bv l:=by
 cases l with
 |nil=>grind
 |cons b l=>
  rw[y9]
  have h1:b≠0:=by grind
  have h2:b.toNat≠0:=by intro h3;exact h1 (UInt8.toNat_inj.mp kd)
  have:1*256^l.length<=b.toNat*256^l.length:=bp _ jb
  grind
theorem aad:∀{l r:List UInt8},l.length=r.length->bv l=bv r->l=r:=by
 intro l;induction l with
 |nil=>grind
 |cons b l ih=>
  intro r h hv
  cases r with
  |nil=>simp at h
  |cons c r=>
   have hl:l.length=r.length:=by grind
   rw[y9,y9,hl]at hv
   have h1:=KN l;have h2:=KN r
   rw[hl]at h1
   have hp:0<256^r.length:=dq jb
   have e1:(b.toNat*256^r.length+bv l)/256^r.length=b.toNat:=by grind[Nat.add_mul_div_right,Nat.div_eq_of_lt]
   have e2:(c.toNat*256^r.length+bv r)/256^r.length=c.toNat:=by grind[Nat.add_mul_div_right,Nat.div_eq_of_lt]
   have e3:b.toNat=c.toNat:=by grind
   have e4:b=c:=UInt8.toNat_inj.mp e3
   grind
def aae{l:List UInt8}(h:l.head?≠some 0):NM (bv l)=l:=by
 have h1:=Uz (bv l);have h2:=NP (bv l);by_cases hl:l=[]
 .subst hl;rfl
 by_cases hr:NM (bv l)=[]
 .rw[hr]at h1;have:=Xi h hl;grind[aqT]
 have g1:=Xi h hl;have g2:=Xi h2 hr;have l1:=KN l;have l2:=KN (NM (bv l));rw[h1]at g2 l2;have hlen:(NM (bv l)).length=l.length:=by
  have hp1:0<l.length:=List.length_pos_iff.mpr hl;have hp2:0<(NM (bv l)).length:=List.length_pos_iff.mpr hr;rcases Nat.lt_trichotomy (NM (bv l)).length l.length with c|c|c
  .have:256^(NM (bv l)).length<=256^(l.length-1):=bB jb jb;omega
  .exact c
  .have:256^l.length<=256^((NM (bv l)).length-1):=bB jb jb;omega
 grind[aad]
def QX{n k:Nat}(h:n<256^k):(NM n).length<=k:=by
 by_cases hn:NM n=[]
 .grind
 .have:=Xi (NP n) hn;rw[Uz]at this;have:256^((NM n).length-1)<256^k:=jb;grind[Nat.pow_lt_pow_iff_right]
def bn(n:Nat):ByteArray:=⟨(NM n).toArray⟩
def nv(s:ByteArray):Nat:=bv s.data.toList
def aex(n:Nat):(bn n).data.toList=NM n:=by simp[bn]
theorem iy(n:Nat):nv (bn n)=n:=by unfold nv;rw[aex,Uz]
def ou{n k:Nat}(h:n<256^k):(bn n).size<=k:=by simp_all[QX,bn,ByteArray.size]
theorem NQ(s:ByteArray):nv s<256^s.size:=
 KN s.data.toList
def aaf{n m:Nat}(h:bn n=bn m):n=m:=by grind[iy]
def Si{s:ByteArray}(h:s.data.toList.head?≠some 0):bn (nv s)=s:=by have:NM (bv s.data.toList)=s.data.toList:=aae h;simp_all[bn,nv]
theorem L9:bn 0=⟨#[]⟩:=rfl
theorem Di(n:Nat):bn n=⟨#[]⟩↔n=0:=by
 constructor
 .intro h;exact aaf (h.trans L9.symm)
 .rintro rfl;rfl
def bl(f:Nat->Nat):Nat->Nat
 |0=>0
 |k+1=>bl f k+256^k*f k
theorem NR{f g:Nat->Nat}{n:Nat}(h:∀j,j<n->f j=g j):bl f n=bl g n:=by
 induction n with
 |zero=>rfl
 |succ k ih=>grind[bl]
def byt(s:ByteArray)(k:Nat):Nat:=(s.data.toList.getD (s.size-1-k) 0).toNat
def UA(s:ByteArray)(k:Nat):byt s k<256:=UInt8.toNat_lt _
def aqU(s:ByteArray)(k:Nat)(h:s.size-1-k<s.size):(s[s.size-1-k]'h).toNat=byt s k:=by unfold byt;rw[cG,fw (by simp_all)];rfl
def avm(l:List UInt8):bl (λk=>(l.getD (l.length-1-k) 0).toNat) l.length=bv l:=by
 induction l with
 |nil=>rfl
 |cons x l ih=>
  rw[y9]
  have e0:(x::l).length=l.length+1:=rfl
  rw[e0]
  grind[bl,NR]
def ag4(s:ByteArray):bl (byt s) s.size=nv s:=avm s.data.toList
def pw(b:Nat->Nat)(k j:Nat):Nat:=(if 4*j<k then b (4*j)else 0)+(if 4*j+1<k then b (4*j+1)*256 else 0)+(if 4*j+2<k then b (4*j+2)*65536 else 0)+(if 4*j+3<k then b (4*j+3)*16777216 else 0)
def apT{b:Nat->Nat}(hb:∀k,b k<256)(k j:Nat):pw b k j<LB:=by grind[pw,LB]
def acv(b:Nat->Nat)(j:Nat):pw b 0 j=0:=by simp[pw]
def aqV{b:Nat->Nat}(hb:∀k,b k<256)(k:Nat):pw b k (k/4)<2^(8*(k%4)):=by have h0:=hb (4*(k/4));grind[pw]
def UC(b:Nat->Nat)(k j:Nat):pw b (k+1) j=upd (pw b k) (k/4) (pw b k (k/4)+b k*2^(8*(k%4))) j:=by
 by_cases hj:j=k/4
 .grind[upd_same,pw]
 grind[dh,pw]
def UD(k:Nat):LB^k=256^(4*k):=by rw[Nat.pow_mul];rfl
theorem aqW(k:Nat):256^k=LB^(k/4)*2^(8*(k%4)):=by
 have h:(256:Nat)=2^8:=by decide
 rw[UD,h,<-Nat.pow_mul,<-Nat.pow_mul,<-eg];congr 1;omega
def avn(b:Nat->Nat){k n:Nat}(hk:k<=4*n):lv (pw b k) n=bl b k:=by
 induction k with
 |zero=>rw[NJ (λj _=>acv b j)];rfl
 |succ k ih=>
  rw[rM (λj _=>UC b k j)]
  grind[aac,bl,aqW]
def lby(f:Nat->Nat)(k:Nat):Nat:=f (k/4)/2^(8*(k%4))%256
def aqX(f:Nat->Nat)(n:Nat):bl f (n+4)=bl f n+256^n*(f n+256*f (n+1)+65536*f (n+2)+16777216*f (n+3)):=by grind[bl]
def aqY{f:Nat->Nat}{n:Nat}(h:∀j,j<n->f j<LB):bl (lby f) (4*n)=lv f n:=by
 induction n with
 |zero=>rfl
 |succ k ih=>
  have hk:=h k jb
  rw[show 4*(k+1)=4*k+4 from rfl,aqX,ih (λj hj=>h j jb),gI,UD]
  congr 1
  have d0:lby f (4*k)=f k%256:=by simp_all[lby]
  have d1:lby f (4*k+1)=f k/256%256:=by unfold lby;rw[show(4*k+1)/4=k by omega,show(4*k+1)%4=1 by omega]
  have d2:lby f (4*k+2)=f k/65536%256:=by unfold lby;rw[show(4*k+2)/4=k by omega,show(4*k+2)%4=2 by omega]
  have d3:lby f (4*k+3)=f k/16777216%256:=by unfold lby;rw[show(4*k+3)/4=k by omega,show(4*k+3)%4=3 by omega]
  grind[LB]
def ext(f:Nat->Nat)(n:Nat):Nat->Nat:=λj=>if j<n then f j else 0
theorem rO{f:Nat->Nat}{n j:Nat}(h:j<n):ext f n j=f j:=by simp[ext,h]
def jX{f:Nat->Nat}{n j:Nat}(h:n<=j):ext f n j=0:=by grind[Go.Proofs.Ins.ext]
def xU{f:Nat->Nat}{n m:Nat}(h:n<=m):lv (ext f n) m=lv f n:=by rw[Ux h (λj h1 _=>jX h1)];grind[rM,rO]
def nT{f:Nat->Nat}{n:Nat}(h:∀j,j<n->f j<LB)(j:Nat):ext f n j<LB:=by grind[Go.Proofs.Ins.ext,Go.Proofs.Ins.lT]
def Jv(f g:Nat->Nat):Nat->Nat
 |0=>0
 |k+1=>(f k+g k+Jv f g k)/LB
def sdg(f g:Nat->Nat)(k:Nat):Nat:=(f k+g k+Jv f g k)%LB
theorem NS(f g:Nat->Nat)(k:Nat):Jv f g (k+1)=(f k+g k+Jv f g k)/LB:=rfl
def ag5{f g:Nat->Nat}(hf:∀j,f j<LB)(hg:∀j,g j<LB)(k:Nat):Jv f g k<=1:=by
 induction k with
 |zero=>simp[Jv]
 |succ k ih=>
  grind[NS,LB]
def ag6(f g:Nat->Nat)(k:Nat):lv (sdg f g) k+LB^k*Jv f g k=lv f k+lv g k:=by
 induction k with
 |zero=>rfl
 |succ k ih=>
  grind[gI,Jv,sdg,Nat.div_add_mod]
def Sj(f g:Nat->Nat):Nat->Nat
 |0=>0
 |k+1=>if f k<g k+Sj f g k then 1 else 0
def ddg(f g:Nat->Nat)(k:Nat):Nat:=(f k+LB*Sj f g (k+1))-g k-Sj f g k
theorem NT(f g:Nat->Nat)(k:Nat):Sj f g (k+1)=if f k<g k+Sj f g k then 1 else 0:=rfl
theorem UE(f g:Nat->Nat)(k:Nat):Sj f g k<=1:=by
 cases k with
 |zero=>simp[Sj]
 |succ k=>grind[NT]
theorem aag{f g:Nat->Nat}{k:Nat}(hf:f k<LB)(hg:g k<LB):ddg f g k+g k+Sj f g k=f k+LB*Sj f g (k+1)/\ddg f g k<LB:=by grind[UE,ddg,NT]
def aqZ{f g:Nat->Nat}{k:Nat}(hf:∀j,j<k->f j<LB)(hg:∀j,j<k->g j<LB):lv (ddg f g) k+lv g k=lv f k+LB^k*Sj f g k:=by
 induction k with
 |zero=>rfl
 |succ k ih=>
  grind[aag,gI]
def NV(O0 O:Nat->Nat)(N i k c u:Nat)(fy:Nat->Nat):Prop:=
 lv O N+LB^(i+k)*c=lv O0 N+LB^i*(u*lv fy k)/\(∀j,j<N->O j<LB)/\(∀j,i+k<=j->O j=O0 j)/\c<LB
def aey{O0:Nat->Nat}{N i u:Nat}{fy:Nat->Nat}(h:∀j,j<N->O0 j<LB):NV O0 O0 N i 0 0 u fy:=
 ⟨by simp[lv],h,λ_ _=>rfl,lT⟩
def ag7{u v o c:Nat}(hu:u<LB)(hv:v<LB)(ho:o<LB)(hc:c<LB):u*v+o+c<LB*LB:=by have h1:u*v<=(LB-1)*(LB-1):=cH jb jb;grind[LB]
def ag8{O0 O:Nat->Nat}{N i k c u:Nat}{fy:Nat->Nat}(h:NV O0 O N i k c u fy)(hu:u<LB)(hv:fy k<LB)(hk:i+k<N):
  NV O0 (upd O (i+k) ((u*fy k+O (i+k)+c)%LB)) N i (k+1) ((u*fy k+O (i+k)+c)/LB) u fy:=by
 obtain⟨h1,h2,h3,h4⟩:=h
 have hf:=ag7 hu hv (h2 (i+k) hk) h4
 refine⟨?_,?_,?_,?_⟩
 .grind[aac,Nat.div_add_mod,lv]
 .intro j hj
  by_cases ej:j=i+k
  .simp_all[upd_same,di,lT]
  grind[dh]
 .grind[dh]
 .exact dT hf
def alZ{O0 O:Nat->Nat}{N i m c u X:Nat}{fy:Nat->Nat}(h:NV O0 O N i m c u fy)(hm:i+m<N)(hz:∀j,i+m<=j->O0 j=0)(hX:lv O0 N=X*lv fy m):
  lv (upd O (i+m) c) N=(X+LB^i*u)*lv fy m/\(∀j,j<N->upd O (i+m) c j<LB)/\(∀j,i+1+m<=j->upd O (i+m) c j=0):=by
 obtain⟨h1,h2,h3,h4⟩:=h
 grind[Go.Proofs.Ins.aac,Go.Proofs.Ins.upd_same,Go.Proofs.Ins.dh]
end Go.Proofs.Ins
namespace Go.Proofs.Ins
open Go.RowKit
def Row(w:World)(b:Nat)(T:TypeId)(k:IntKind)(n:Nat)(f:Nat->Nat):Prop:=
 ∃c,w.heap[b]?=some (.cells c T (0,0))/\c.size=n/\∀j,j<n->c[j]?=some (.int k (f j))
def Row.lt{w:World}{b:Nat}{T:TypeId}{k:IntKind}{n:Nat}{f:Nat->Nat}(h:Row w b T k n f):b<w.heap.size:=by obtain⟨c,hc,_⟩:=h;exact(eM.mp hc).1
def Row.cell{w:World}{b:Nat}{T:TypeId}{k:IntKind}{n:Nat}{f:Nat->Nat}(h:Row w b T k n f){j:Nat}(hj:j<n):w.cell? ⟨b,j,none⟩=some (.int k (f j)):=by obtain⟨c,hc,hn,hf⟩:=h;rw[cell_of_row w b j c T (0,0) hc,hf j hj]
def Row.frozen{w:World}{b:Nat}{T:TypeId}{k:IntKind}{n:Nat}{f:Nat->Nat}(h:Row w b T k n f)(j:Nat):w.frozen? ⟨b,j,none⟩=false:=by obtain⟨c,hc,_⟩:=h;exact frozen_of_row w b j c T hc
def Row.congr{w:World}{b:Nat}{T:TypeId}{k:IntKind}{n:Nat}{f g:Nat->Nat}(h:Row w b T k n f)(hg:∀j,j<n->f j=g j):Row w b T k n g:=by obtain⟨c,hc,hn,hf⟩:=h;exact⟨c,hc,hn,λj hj=>by rw[<-hg j hj];exact hf j hj⟩
def Row.block{w w':World}{b:Nat}{T:TypeId}{k:IntKind}{n:Nat}{f:Nat->Nat}(h:Row w b T k n f)(hb:w'.heap[b]?=w.heap[b]?):Row w' b T k n f:=by obtain⟨c,hc,r⟩:=h;exact⟨c,hb.trans hc,r⟩
def Row.drew{w:World}{b:Nat}{T:TypeId}{k:IntKind}{n:Nat}{f:Nat->Nat}(h:Row w b T k n f):Row w.drew b T k n f:=h.block rfl
def Row.drewN{w:World}{b:Nat}{T:TypeId}{k:IntKind}{n:Nat}{f:Nat->Nat}(h:Row w b T k n f)(m:Nat):Row (w.drewN m) b T k n f:=h.block rfl
def Row.below{w w':World}{b B:Nat}{T:TypeId}{k:IntKind}{n:Nat}{f:Nat->Nat}(h:Row w b T k n f)(hb:Below B w w')(hB:b<B):Row w' b T k n f:=h.block (hb.block b hB)
def Row.setOther{w:World}{b:Nat}{T:TypeId}{k:IntKind}{n:Nat}{f:Nat->Nat}(h:Row w b T k n f)(a:Addr)(v:Value)(ha:b≠a.block):Row (w.setCell a v) b T k n f:=
 h.block (heap_setCell_other w a b v ha)
def Row.set{w:World}{b:Nat}{T:TypeId}{k:IntKind}{n:Nat}{f:Nat->Nat}(h:Row w b T k n f)(i v:Nat):Row (w.setCell ⟨b,i,none⟩ (.int k v)) b T k n (upd f i v):=by
 obtain⟨c,hc,hn,hf⟩:=h;refine⟨c.setIfInBounds i (.int k v),?_,by simpa using hn,λj hj=>?_⟩
 .rw[World.setCell];simp only[Array.getElem?_modify];simp[hc]
 .rw[ik];by_cases e:i=j
  .subst e;simp[upd_same,hn,hj]
  .rw[ab e,dh f i v (Ne.symm e)];exact hf j hj
def Row.made(w:World)(T:TypeId)(k:IntKind)(n:Nat):Row (w.alloc (.cells (madeCells #[.int k 0] n) T)) w.heap.size T k n (λ_=>0):=by refine⟨_,heap_alloc_new w _,size_madeCells _ _,λj hj=>?_⟩;have:(madeCells #[Value.int k 0] n).toList=List.replicate n (.int k 0):=toList_madeCells_one _ _;rw[<-Array.getElem?_toList,this,List.getElem?_replicate,ae hj];rfl
def Reads(w:World)(b off:Nat)(k:IntKind)(n:Nat)(f:Nat->Nat):Prop:=∀j,j<n->w.cell? ⟨b,off+j,none⟩=some (.int k (f j))
def Row.reads{w:World}{b:Nat}{T:TypeId}{k:IntKind}{n:Nat}{f:Nat->Nat}(h:Row w b T k n f):Reads w b 0 k n f:=λj hj=>by rw[cL];exact h.cell hj
def Reads.lt{w:World}{b off:Nat}{k:IntKind}{n:Nat}{f:Nat->Nat}(h:Reads w b off k n f)(hn:0<n):b<w.heap.size:=block_lt_of_cell (h 0 hn)
def Reads.block{w w':World}{b off:Nat}{k:IntKind}{n:Nat}{f:Nat->Nat}(h:Reads w b off k n f)(hb:w'.heap[b]?=w.heap[b]?):Reads w' b off k n f:=λj hj=>by rw[World.cell?_of_block (w:=w) (a:=⟨b,off+j,none⟩) hb];exact h j hj
def Reads.below{w w':World}{b off B:Nat}{k:IntKind}{n:Nat}{f:Nat->Nat}(h:Reads w b off k n f)(hb:Below B w w')(hB:b<B):Reads w' b off k n f:=h.block (hb.block b hB)
def Limbs(w:World)(a:Option Addr)(len:Nat)(x:Nat):Prop:=
 ∃f,lv f len=x/\Can f len/\(len=0\/∃b off,a=some ⟨b,off,none⟩/\Reads w b off .u32 len f)
def Limbs.below{w w':World}{B:Nat}{a:Option Addr}{len x:Nat}(h:Limbs w a len x)(hb:Below B w w')(hB:w.heap.size<=B):Limbs w' a len x:=by
 obtain⟨f,h1,h2,h3⟩:=h;refine⟨f,h1,h2,?_⟩;rcases h3 with h3|⟨b,off,ha,hr⟩
 .exact .inl h3
 .by_cases hl:len=0
  .exact .inl hl
  .exact .inr ⟨b,off,ha,hr.below hb (aM (hr.lt jb) hB)⟩
def Limbs.NW{w:World}{a:Option Addr}{len x k:Nat}(h:Limbs w a len x)(hx:x<LB^k):len<=k:=by
 obtain⟨f,rfl,h2,_⟩:=h;by_cases hl:len=0
 .omega
 .have:=h2.ge jb;have h3:LB^(len-1)<LB^k:=jb;have:=(Nat.pow_lt_pow_iff_right (show 1<LB by unfold LB;omega)).mp h3;omega
def Limbs.vK{w:World}{a:Option Addr}{len x:Nat}(h:Limbs w a len x):x=0↔len=0:=by obtain⟨f,rfl,h2,_⟩:=h;exact h2.vK
def iE{P:Program}{w:World}{ops:Array Oper}{rest:List Oper}{o:Oper}{a:Act}{Q:Exit->Act->World->Prop}
  (l c:Operand) (t e:TypeId) (k:IntKind) (bytes n:Nat) (C:Int) (hg:o.guard=none) (hop:o.op=Op.makeSlice t l c)
  (h1:P.underlying t=some (.slice e)) (h2:(P.info? e).map (λi=>(i.zero,i.size,i.bytes))=some (some (.int k 0),1,bytes))
  (hl:a.eval l=.int .i64 C) (hc:a.eval c=.int .i64 C) (hC:C=(n:Int)) (hn:n<=4294967296) (hb:bytes<=8)
  (hK:∀w',Row w' w.heap.size e k n (λ_=>0)->Below w.heap.size w w'->w'.heap.size=w.heap.size+1->wpList P ops Q rest (a.put o.dst (.slice (some ⟨w.heap.size,0,none⟩) n n)) w'):
  wpList P ops Q (o::rest) a w:=by
 obtain⟨i,hi,hz,hs,hbb⟩:=info_parts h2
 refine wpList_plain hg λK hK'=>?_
 have hrun:=run_make (P:=P) w t e i _ h1 hi hz .i64 .i64 n n jb jb (by rw[hbb];have h5:=cH hb hn;omega) jb
 subst hC
 unfold Oper.wp
 simp[execOp,hop,hl,hc,hrun,Result.andThen]
 rw[hs,fv]
 exact hK' _ _ (hK _ (Row.made w e k n) ((Below.refl _ _).alloc jp _) kc)
def ag9(a b s:Nat)(ha:a<2^s)(hb:a+b*2^s<4294967296):bits BinOp.or .u32 (a:Int) ((b:Int)*2^s)=((a+b*2^s:Nat):Int):=by
 have h1:((b:Int)*2^s)=((b*2^s:Nat):Int):=by push_cast;rfl
 rw[h1];rw[(bits_nat .u32 32 jj (λn h0 h1=>by rw[IntKind.wrap_u32];omega) a (b*2^s) jb jb).2];have h2:a|||b*2^s=a+b*2^s:=by rw[Nat.or_comm,dE,<-ip ha,eN]
 rw[<-h2]
def wY{k:IntKind}{a b:Int}(h:a=b):Ending.returned (.int k a)=.returned (.int k b):=by rw[h]
def EI{a b:ByteArray}(h:a=b):Ending.returned (.string a)=.returned (.string b):=by rw[h]

section
variable {P:Program} {ops:Array Oper} {md:Region.Mode} {C:World→Prop}
end
def Blk(w:World)(b:Nat)(vs:Array Value):Prop:=∃T,w.heap[b]?=some (.cells vs T (0,0))
def Blk.lt{w:World}{b:Nat}{vs:Array Value}(h:Blk w b vs):b<w.heap.size:=by obtain⟨T,h⟩:=h;exact(eM.mp h).1
def Blk.block{w w':World}{b:Nat}{vs:Array Value}(h:Blk w b vs)(hb:w'.heap[b]?=w.heap[b]?):Blk w' b vs:=by obtain⟨T,h⟩:=h;exact⟨T,hb.trans h⟩
def Blk.below{w w':World}{b B:Nat}{vs:Array Value}(h:Blk w b vs)(hb:Below B w w')(hB:b<B):Blk w' b vs:=h.block (hb.block b hB)
def Blk.on{w w':World}{b:Nat}{vs:Array Value}(h:Blk w b vs)(hb:Below w.heap.size w w'):Blk w' b vs:=h.below hb h.lt
def Blk.new(w:World)(vs:Array Value)(T:TypeId):Blk (w.alloc (.cells vs T)) w.heap.size vs:=⟨T,heap_alloc_new w _⟩
def chain{B:Nat}{w0 w w':World}(h:Below B w0 w)(h2:Below w.heap.size w w')(hB:B<=w0.heap.size):Below B w0 w':=h.trans (h2.mono (ap hB h.size))
def aq0{w w3:World}{vs:Array Value}{T:TypeId}(h:Below (w.alloc (.cells vs T)).heap.size (w.alloc (.cells vs T)) w3):
  Blk w3 w.heap.size vs/\Below w.heap.size w w3:=
 ⟨(Blk.new w vs T).on h,chain ((Below.refl _ _).alloc jp _) h jp⟩
def Gv(w:World)(b off sz n:Nat)(F:Nat->List Value):Prop:=∀i j,i<n->j<sz->w.cell? ⟨b,off+i*sz+j,none⟩=(F i)[j]?
def Gv.below{w w':World}{b off sz n B:Nat}{F:Nat->List Value}(h:Gv w b off sz n F)(hb:Below B w w')(hB:b<B):Gv w' b off sz n F:=λi j hi hj=>by rw[World.cell?_of_block (w:=w) (a:=⟨b,off+i*sz+j,none⟩) (hb.block b hB)];exact h i j hi hj
def aez(w:World)(a:Option Addr)(n sz:Nat)(F:Nat->List Value):Prop:=n=0\/∃b off,a=some ⟨b,off,none⟩/\b<w.heap.size/\Gv w b off sz n F
def mW(w:World)(base:Nat)(T:TypeId)(sz:Nat)(v:Value)(n:Nat)(F:Nat->List Value):Prop:=
 w.ownsRow base T sz v n ((List.range n).flatMap F)/\∀i,i<n->(F i).length=sz
theorem mW.nil(w:World)(base:Nat)(T:TypeId)(sz:Nat)(F:Nat->List Value):mW w base T sz (.slice none 0 0) 0 F:=⟨⟨by simp,.inl ⟨rfl,rfl⟩⟩,λi hi=>jb⟩
def mW.below{w w':World}{base B:Nat}{T:TypeId}{sz:Nat}{v:Value}{n:Nat}{F:Nat->List Value}(h:mW w base T sz v n F)(hb:Below B w w')(hB:w.heap.size<=B):mW w' base T sz v n F:=by
 obtain⟨⟨h1,h2⟩,h3⟩:=h;refine⟨⟨h1,?_⟩,h3⟩;rcases h2 with h2|⟨g,cap,cur,rfl,hb2,hg,hn,hm,hs,ht⟩
 .exact .inl h2
 .exact .inr ⟨g,cap,cur,rfl,hb2,(hb.block g (aM (eM.mp hg).1 hB)).trans hg,hn,hm,hs,ht⟩
def zi{F:Nat->List Value}{sz:Nat}:∀(n:Nat),(∀i,i<n->(F i).length=sz)->∀i j,i<n->j<sz->((List.range n).flatMap F)[i*sz+j]?=(F i)[j]?
 |0,_,i,j,hi,_=>jb
 |n+1,hF,i,j,hi,hj=>by
  rw[fj,cR];have hlen:((List.range n).flatMap F).length=n*sz:=by
   clear hi;induction n with
   |zero=>simp
   |succ n ih=>
    rw[fj,cR,aD,ih (λi hi=>hF i jb)]
    simp[hF n jb,cj]
  by_cases h:i<n
  .have h4:i*sz+j<n*sz:=by have:=bp sz (show i+1<=n by omega);rw[cj]at this;omega
   rw[List.getElem?_append_left jb];exact zi n (λi hi=>hF i jb) i j h hj
  .obtain rfl:i=n:=jb;rw[List.getElem?_append_right jb,hlen,show i*sz+j-i*sz=j by omega];simp
def mW.form{w:World}{base:Nat}{T:TypeId}{sz:Nat}{v:Value}{n:Nat}{F:Nat->List Value}(h:mW w base T sz v n F):
  (v=.slice none 0 0/\n=0)\/∃g cap,v=.slice (some ⟨g,0,none⟩) n cap/\base<=g/\n<=cap/\cap<=9223372036854775807/\g<w.heap.size/\Gv w g 0 sz n F:=by
 obtain⟨h0,h3⟩:=h
 obtain⟨h1,h2⟩:=h0
 rcases h2 with h2|⟨g,cap,cur,rfl,hb,hg,hn,hm,hs,ht⟩
 .exact .inl h2
 .refine .inr ⟨g,cap,rfl,hb,hn,hm,(eM.mp hg).1,λi j hi hj=>?_⟩
  have hlt:i*sz+j<n*sz:=by have:=bp sz (show i+1<=n by omega);rw[cj]at this;omega
  have:=World.ownsRow.cellAt ⟨h1,.inr ⟨g,cap,cur,rfl,hb,hg,hn,hm,hs,ht⟩⟩ (i*sz+j) hlt
  rw[cL,this]
  exact zi n h3 i j hi hj
def Ib{base sz:Nat}{w w':World}{T:TypeId}{v:Value}{n:Nat}{xs:List Value}(h:w.ownsRow base T sz v n xs)(hg:w.grownBy w' v.ownBlock)(hb:base<=w.heap.size):Below base w w':=by
 refine(Below.refl _ _).grown hg hb ?_;intro k hk;rcases h.2 with⟨rfl,_⟩|⟨g,cap,cur,rfl,hb2,_⟩
 .cases hk
 .have:g=k:=eA hk;omega
def UF{P:Program}{T:TypeId}{sz bytes:Nat}(h:(P.info? T).map (λi=>(i.zero.map (λz=>z.cells.size),i.size,i.bytes))=some (some sz,sz,bytes)):
  ∃i z,P.info? T=some i/\i.zero=some z/\z.cells.size=sz/\i.size=sz/\i.bytes=bytes:=by
 cases hi:P.info? T with
 |none=>rw[hi]at h;cases h
 |some i=>
  rw[hi]at h
  simp only[Option.map_some,bh,da]at h
  obtain⟨h1,h2,h3⟩:=h
  cases hz:i.zero with
  |none=>rw[hz]at h1;cases h1
  |some z=>
   rw[hz]at h1
   exact⟨i,z,rfl,hz,eA h1,h2,h3⟩
def aah{P:Program}{w:World}{o:Oper}{a:Act}{K:Act->World->Prop}{Q:Exit->Act->World->Prop}
  (s x:Operand) (t T:TypeId) (sz bytes:Nat) (base:Nat) (v:Value) (n:Nat) (F:Nat->List Value) (E:List Value)
  (hop:o.op=.call { callee:=.builtin .append,args:=#[s,x],argTypes:=#[t,t] })
  (h1:P.underlying t=some (.slice T)) (h2:(P.info? T).map (λi=>(i.zero.map (λz=>z.cells.size),i.size,i.bytes))=some (some sz,sz,bytes)) (hsz:0<sz)
  (hs:a.eval s=v) (hE:E.length=sz) (h1c:∀u∈E,u.oneCell'=true) (hx:a.eval x=.slice (some ⟨w.heap.size,0,none⟩) 1 1) (hown:mW w base T sz v n F) (hn:(n+1)*bytes<=140737488355328) (hn2:n+1<=4294967296) (hbase:base<=w.heap.size)
  (h:∀v' w',mW w' base T sz v' (n+1) (λj=>if j<n then F j else E)->Below base w w'->K (a.put o.dst v') w'):
  o.wp P a (w.alloc (.cells E.toArray T)) K Q:=by
 obtain⟨i,z,hi,hz,hzs,hsize,hbb⟩:=UF h2
 refine wp_append_own _ s x t hop base T i z sz bytes h1 hi hz hsize hbb hzs hsz v n _ hs (World.ownsRow.alloc hown.1 _) ⟨w.heap.size,0,none⟩ 1 1 E hx (by rw[hE,Nat.one_mul]) ?_ h1c (by unfold maxLen;omega) hn (by simp;omega) ?_
 .intro j u hj
  have e:(⟨w.heap.size,0,none⟩:Addr).add j=⟨w.heap.size,j,none⟩:=by unfold Addr.add;split<;>simp_all
  rw[e,cell_of_row _ _ _ _ _ (0,0) (heap_alloc_new w _)]
  simpa using hj
 .intro v' w' ho hgr _
  have hbl:Below base w w':=((Below.refl _ _).alloc hbase _).trans (Ib (World.ownsRow.alloc hown.1 _) hgr (by simp;omega))
  refine h v' w' ⟨?_,λi hi=>?_⟩ hbl
  .have e:(List.range n).flatMap F++E=(List.range (n+1)).flatMap (λj=>if j<n then F j else E):=by
    rw[fj,cR];congr 1
    .have hc:∀(m:Nat),m<=n->(List.range m).flatMap F=(List.range m).flatMap (λj=>if j<n then F j else E):=by
      intro m;induction m with
      |zero=>intro _;rfl
      |succ m ih=>
       intro hm
       rw[fj,cR,cR,ih jb]
       simp[show m<n by omega]
     exact hc n jp
    .simp
   rw[<-e];exact ho
  .by_cases h:i<n
   .simp only[h,if_true];exact hown.2 i h
   .simp only[h,if_false];exact hE
def NY{P:Program}{w:World}{ops:Array Oper}{rest:List Oper}{o:Oper}{a:Act}{Q:Exit->Act->World->Prop}
  (s x:Operand) (t T:TypeId) (sz bytes:Nat) (base:Nat) (v:Value) (n:Nat) (F:Nat->List Value) (E:List Value)
  (hg:o.guard=none) (hop:o.op=.call { callee:=.builtin .append,args:=#[s,x],argTypes:=#[t,t] })
  (h1:P.underlying t=some (.slice T)) (h2:(P.info? T).map (λi=>(i.zero.map (λz=>z.cells.size),i.size,i.bytes))=some (some sz,sz,bytes)) (hsz:0<sz)
  (hs:a.eval s=v) (hE:E.length=sz) (h1c:∀u∈E,u.oneCell'=true) (hx:a.eval x=.slice (some ⟨w.heap.size,0,none⟩) 1 1) (hown:mW w base T sz v n F) (hn:(n+1)*bytes<=140737488355328) (hn2:n+1<=4294967296) (hbase:base<=w.heap.size)
  (h:∀v' w',mW w' base T sz v' (n+1) (λj=>if j<n then F j else E)->Below base w w'->wpList P ops Q rest (a.put o.dst v') w'):
  wpList P ops Q (o::rest) a (w.alloc (.cells E.toArray T)):=
 wpList_plain hg λ_ hK=>aah s x t T sz bytes base v n F E hop h1 h2 hsz hs hE h1c hx hown hn hn2 hbase λv' w' ho hb=>hK _ _ (h v' w' ho hb)
def mW.congr{w:World}{base:Nat}{T:TypeId}{sz:Nat}{v:Value}{n:Nat}{F G:Nat->List Value}(h:mW w base T sz v n F)(hg:∀i,i<n->F i=G i):mW w base T sz v n G:=by
 obtain⟨h1,h2⟩:=h;refine⟨?_,λi hi=>by rw[<-hg i hi];exact h2 i hi⟩;have hc:∀(m:Nat),m<=n->(List.range m).flatMap F=(List.range m).flatMap G:=by
  intro m;induction m with
  |zero=>intro _;rfl
  |succ m ih=>
   intro hm
   rw[fj,cR,cR,ih jb]
   simp[hg m jb]
 rw[<-hc n jp];exact h1
end Go.Proofs.Ins
namespace Go.Proofs.Ins
def rn(q:Rat):Bool:=decide (q.num<0)
def rs(q:Rat):ByteArray:=bn q.num.natAbs
def rd(q:Rat):ByteArray:=if q.den=1 then⟨#[]⟩else bn q.den
def wZ(n:Bool)(x:Nat):Int:=if n=true then-(x:Int)else(x:Int)
theorem oz(n:Bool)(x:Nat):(wZ n x).natAbs=x:=by grind[wZ]
theorem Xj(n:Bool):wZ n 0=0:=by grind[wZ]
theorem acw(n:Bool){x:Nat}(h:0<x):decide (wZ n x<0)=n:=by grind[wZ]
theorem acy(n m:Bool)(x y:Nat):wZ n x*wZ m y=wZ (n !=m) (x*y):=by unfold wZ;grind
theorem Dj(i:Int):wZ (decide (i<0)) i.natAbs=i:=by grind[wZ]
def dn(d:ByteArray):Nat:=if nv d=0 then 1 else nv d
theorem acz(q:Rat):dn (rd q)=q.den:=by
 unfold dn rd;by_cases h:q.den=1
 .rw[ae h,h];rfl
 .rw[ab h,iy,ab (by have:=q.den_pos;omega)]
def QY(n:Bool)(s d:ByteArray):Prop:=
 bn (nv s)=s/\bn (nv d)=d/\(nv s=0->n=false/\nv d=0)/\(nv d=0\/(nv d≠1/\Nat.gcd (nv s) (nv d)=1))
instance (n:Bool) (s d:ByteArray):Decidable (QY n s d):=by unfold QY;infer_instance
def rq(n:Bool)(s d:ByteArray):Rat:=if QY n s d then mkRat (wZ n (nv s)) (dn d)else 0
theorem Dk(q:Rat):QY (rn q) (rs q) (rd q):=by
 unfold QY;have hd:=q.den_pos;have e:nv (rd q)=if q.den=1 then 0 else q.den:=by
  unfold rd;split
  .rfl
  .exact iy _
 refine⟨by unfold rs;rw[iy],?_,?_,?_⟩
 .unfold rd;split
  .rfl
  .rw[iy]
 .intro h;unfold rs at h;rw[iy]at h;have h0:q.num=0:=jb;have h1:q=0:=Rat.num_eq_zero.mp h0;subst h1;exact⟨rfl,rfl⟩
 .rw[e];by_cases h1:q.den=1
  .grind
  .rw[ab h1];refine .inr ⟨h1,?_⟩;unfold rs;rw[iy];exact q.reduced
theorem FZ(q:Rat):rq (rn q) (rs q) (rd q)=q:=by grind[rq,Dk,acz,rs,rn,iy,Dj,Rat.mkRat_self]
def acA{n:Bool}{s d:ByteArray}(h:QY n s d):(rq n s d).num=wZ n (nv s)/\(rq n s d).den=dn d:=by obtain⟨h1,h2,h3,h4⟩:=h;unfold rq;rw[ae ⟨h1,h2,h3,h4⟩];grind[dn,oz,Nat.gcd_one_left,Rat.num_mkRat,Rat.den_mkRat]
def xW{n:Bool}{s d:ByteArray}(h:QY n s d):rn (rq n s d)=n/\rs (rq n s d)=s/\rd (rq n s d)=d:=by
 obtain⟨e1,e2⟩:=acA h;obtain⟨h1,h2,h3,h4⟩:=h;refine⟨?_,?_,?_⟩
 .grind[rn,Xj,acw]
 .grind[rs,oz]
 .unfold rd;rw[e2];unfold dn;rcases h4 with h4|⟨h5,h6⟩
  .rw[ae h4,ae rfl,<-h2,h4];rfl
  .by_cases h7:nv d=0
   .rw[ae h7,ae rfl,<-h2,h7];rfl
   grind
theorem aai{n:Bool}{s d:ByteArray}(h:¬QY n s d):rq n s d=0:=by grind[rq]
theorem aaj{p q:Rat}(h1:rn p=rn q)(h2:rs p=rs q)(h3:rd p=rd q):p=q:=by grind[FZ]
def fr(n:Bool)(x y:Nat):Rat:=mkRat (wZ n x) y
def acB(n:Bool)(y:Nat):fr n 0 y=0:=by simp_all[fr,Xj]
theorem aak{n:Bool}{x y:Nat}(hy:0<y):(fr n x y).num=wZ n (x/Nat.gcd x y)/\(fr n x y).den=y/Nat.gcd x y:=by
 unfold fr;have hg:y.gcd (wZ n x).natAbs=Nat.gcd x y:=by grind[oz]
 constructor
 .rw[Rat.num_mkRat,ab jb,hg];have hdv:(Nat.gcd x y)∣x:=Nat.gcd_dvd_left x y;unfold wZ;cases n
  .simp
  .simp only[if_true];rw[Int.neg_ediv_of_dvd (by exact_mod_cast hdv),ir]
 grind[Rat.den_mkRat]
def aeA{n:Bool}{x y:Nat}(hx:0<x)(hy:0<y):rn (fr n x y)=n/\rs (fr n x y)=bn (x/Nat.gcd x y)/\rd (fr n x y)=if y/Nat.gcd x y=1 then⟨#[]⟩else bn (y/Nat.gcd x y):=by grind[Go.Proofs.Ins.aak,Nat.div_pos,Nat.gcd_le_left,Nat.gcd_pos_of_pos_left,Go.Proofs.Ins.rn,Go.Proofs.Ins.acw,Go.Proofs.Ins.rs,Go.Proofs.Ins.oz,Go.Proofs.Ins.rd]
def nm(q:Rat):Nat:=q.num.natAbs
def F5(q:Rat):nv (rs q)=nm q:=iy _
theorem Ic(q:Rat):fr (rn q) (nm q) q.den=q:=by simp_all[fr,rn,nm,Dj]
theorem NZ(q:Rat):wZ (rn q) (nm q)=q.num:=Dj _
def rP{q:Rat}:nm q=0↔q=0:=by grind[nm,Rat.num_eq_zero]
def jY{q:Rat}:rs q=⟨#[]⟩↔q=0:=by simp_all[rs,Di]
def UG{q:Rat}:rn q=true↔q<0:=by simp_all[rn,Rat.lt_iff]
def N7{q:Rat}:rn q=false↔0<=q:=by simp_all[rn]
def aal(a b:Rat):a*b=fr (rn a !=rn b) (nm a*nm b) (a.den*b.den):=by grind[fr,acy,NZ,Rat.mul_def']
def aam{a b:Rat}(hb:b≠0):a/b=fr (rn a !=rn b) (nm a*b.den) (a.den*nm b):=by
 have h1:0<nm b:=fg λh=>hb (rP.mp h);have h2:fr (rn a !=rn b) (nm a*b.den) (a.den*nm b)*b=a:=by
  rw[aal];have e1:=Ic a;have hd:=a.den_pos;have hbd:=b.den_pos;generalize hz:fr (rn a !=rn b) (nm a*b.den) (a.den*nm b)=z;have hz0:z=mkRat (wZ (rn a !=rn b) (nm a*b.den)) (a.den*nm b):=hz.symm;rw[<-aal,hz0,<-Ic b];unfold fr;rw[Rat.mkRat_mul_mkRat,acy];rw[show nm (mkRat (wZ (rn b) (nm b)) b.den)=nm b by grind[Ic,fr]];rw[show rn (mkRat (wZ (rn b) (nm b)) b.den)=rn b by grind[Ic,fr]];rw[show(mkRat (wZ (rn b) (nm b)) b.den).den=b.den by grind[Ic,fr]];have e3:((rn a !=rn b) !=rn b)=rn a:=by simp
  rw[e3];have e4:wZ (rn a) (nm a*b.den*nm b)=wZ (rn a) (nm a)*((b.den*nm b:Nat):Int):=by grind[wZ]
  rw[e4,NZ];rw[show a.den*nm b*b.den=a.den*(b.den*nm b) by grind];rw[Rat.mkRat_mul_right (by have:=cg hbd h1;omega),Rat.mkRat_self]
 grind
def aan(a b:Rat):a+b=mkRat (wZ (rn a) (nm a*b.den)+wZ (rn b) (nm b*a.den)) (a.den*b.den):=by rw[Rat.add_def'];grind[NZ,wZ]
def Ie(n:Bool)(x y:Nat):wZ n x+wZ n y=wZ n (x+y):=by grind[wZ]
def xg{n m:Bool}(h:n≠m){x y:Nat}(hle:y<=x):wZ n x+wZ m y=wZ n (x-y):=by grind[wZ]
def Xk{a b:Rat}(h:a.den=b.den):a+b=mkRat (wZ (rn a) (nm a)+wZ (rn b) (nm b)) a.den:=by
 have hd:=a.den_pos;rw[aan,<-h];have e:wZ (rn a) (nm a*a.den)+wZ (rn b) (nm b*a.den)=(wZ (rn a) (nm a)+wZ (rn b) (nm b))*(a.den:Int):=by grind[wZ]
 rw[e,Rat.mkRat_mul_right jb]
def sg(q:Rat):Int:=if q=0 then 0 else if q<0 then-1 else 1
def pI(a b:Rat):Int:=sg (a-b)
def acC{q:Rat}(h:nm q=0):sg q=0:=by unfold sg;rw[ae (rP.mp h)]
def aq1{q:Rat}(h:rn q=true):sg q=-1:=by have h1:=UG.mp h;grind[sg]
def aq2{q:Rat}(h:rn q=false)(h2:nm q≠0):sg q=1:=by have h1:=N7.mp h;unfold sg;rw[ab (λe=>h2 (rP.mpr e)),ab kd]
theorem Ig{a b:Rat}(h:a<b):pI a b=-1:=by grind[pI,sg]
theorem Ih{a b:Rat}(h:b<a):pI a b=1:=by grind[pI,sg]
theorem Mc(a:Rat):pI a a=0:=by unfold pI;rw[Rat.sub_self];rfl
def xq{a b:Rat}:pI a b<=0↔a<=b:=by grind[Ig,Mc,Ih]
def rQ{a b:Rat}:pI a b<0↔a<b:=by grind[Ih,Mc,Ig]
def Sm(k:Nat)(q:Rat):Prop:=nm q<256^k/\q.den<256^k
def Sm.mono{k l:Nat}{q:Rat}(h:Sm k q)(hkl:k<=l):Sm l q:=
 ⟨aM h.1 (bB jb hkl),aM h.2 (bB jb hkl)⟩
theorem Sm.rs{k:Nat}{q:Rat}(h:Sm k q):(rs q).size<=k:=ou h.1
theorem Sm.rd{k:Nat}{q:Rat}(h:Sm k q):(rd q).size<=k:=by
 unfold Ins.rd;split
 .exact br _
 .exact ou h.2
theorem al0(k:Nat)(hk:0<k):Sm k 0:=⟨dq jb,by show 1<256^k;grind⟩
def avo{n:Bool}{s d:ByteArray}{k:Nat}(hs:s.size<=k)(hd:d.size<=k)(hk:0<k):Sm k (rq n s d):=by
 by_cases h:QY n s d
 .obtain⟨e1,e2⟩:=acA h;constructor
  .grind[nm,oz,Nat.lt_of_lt_of_le,NQ,Nat.pow_le_pow_right]
  grind[dn,Nat.lt_of_lt_of_le,NQ,Nat.pow_le_pow_right]
 grind[aai,al0]
def apU{n:Bool}{x y k:Nat}(hx:x<256^k)(hy:y<256^k)(hy0:0<y):Sm k (fr n x y):=by
 obtain⟨e1,e2⟩:=aak (n:=n) (x:=x) hy0;constructor
 .unfold nm;rw[e1,oz];exact cV (fm _ _) hx
 .rw[e2];exact cV (fm _ _) hy
def kM{x y k l:Nat}(hx:x<256^k)(hy:y<256^l):x*y<256^(k+l):=by
 rw[eg];have h0:0<256^k:=dq jb;rcases eE y with rfl|h
 .simp_all
 .exact aM (eI hx h) (cw _ (il hy))
def Sm.div{k l:Nat}{a b:Rat}(h:Sm k a)(h2:Sm l b)(hb:b≠0):Sm (k+l) (a/b):=by rw[aam hb];exact apU (kM h.1 h2.2) (kM h.2 h2.1) (cg a.den_pos (fg λh=>hb (rP.mp h)))
def aha(i:Int)(y:Nat):mkRat i y=fr (decide (i<0)) i.natAbs y:=by unfold fr;rw[Dj]
theorem Sm.add{k l:Nat}{a b:Rat}(h:Sm k a)(h2:Sm l b):Sm (k+l+1) (a+b):=by rw[aan,aha];have h3:=kM h.1 h2.2;have h4:=kM h2.1 h.2;have h5:=kM h.2 h2.2;rw[eN l k]at h4;have e:(256:Nat)^(k+l+1)=256*256^(k+l):=jb;refine apU ?_ jb (cg a.den_pos b.den_pos);grind[oz]
def Sm.neg{k:Nat}{a:Rat}(h:Sm k a):Sm k (-a):=by
 refine⟨?_,h.2⟩;have:nm (-a)=nm a:=by grind[nm,Rat.neg_num]
 rw[this];exact h.1
def ahb{a:Rat}(h:nm a≠0):rn (-a)= !(rn a):=by grind[rn,Rat.neg_num,nm]
def aao(a:Rat):rs (-a)=rs a:=by grind[rs,Rat.neg_num]
def aap(a:Rat):rd (-a)=rd a:=rfl
def Sm.sub{k l:Nat}{a b:Rat}(h:Sm k a)(h2:Sm l b):Sm (k+l+1) (a-b):=by rw[gO];exact h.add h2.neg
end Go.Proofs.Ins
namespace Go.Proofs.Ins
open Go.RowKit
def ar9:type_of%(And.intro @IntWalk.i64_in (And.intro @IntWalk.u64_in (And.intro @IntWalk.u32_in (And.intro @IntWalk.u16_in (And.intro @IntWalk.u8_in (And.intro @iz @gd)))))):=
 And.intro @IntWalk.i64_in (And.intro @IntWalk.u64_in (And.intro @IntWalk.u32_in (And.intro @IntWalk.u16_in (And.intro @IntWalk.u8_in (And.intro @iz @gd)))))
end Go.Proofs.Ins
