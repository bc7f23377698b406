import Derived.Test.YtchhojplceoifaaGreatDoorYe1
import Derived.Test.YtchhojplceoifaaGreatDoorProg
import Derived.Deep.QuietTactic
import Derived.Lib.Strings
import Derived.Lib.Hide
import Derived.Lib.Bytealg
import Derived.Test.YtchhojplceoifaaGreatDoorTie
import Derived.ProofKit
import Derived.OpenShut
import Derived.Deep.Slices
import Derived.Deep.Strs
import Derived.Lib.SmallJoins
import Derived.Carry
import Derived.LaidMore
import Derived.Stop.Joined
import Derived.Test.YtchhojplceoifaaGreatDoorCards
import Derived.Lay
import Derived.SevenTiedAt
set_option linter.all false
set_option maxRecDepth 100000
set_option maxHeartbeats 8000000
namespace Go.Proofs.Ins
open Go.RowKit
def wI:(Tryz.prog.info? 177).map (λi=>(i.zero,i.size,i.bytes))=some (some (.int .u32 0),1,4):=by kernel_rfl
def afX:(Tryz.prog.info? 5).map (λi=>(i.zero,i.size,i.bytes))=some (some (.int .u8 0),1,1):=by kernel_rfl
def GN(w:World)(x:Nat)(e:Ending)(w':World):Prop:=
 ∃a len cap,e=.returned (.slice a len cap)/\len<=cap/\cap<=9223372036854775807/\Limbs w' a len x/\Below w.heap.size w w'
def QD(b off len cap:Nat)(xs:Nat->Nat)(n:Nat)(w:World)(hl:len<=4294967296)(hcap:len<=cap)
  (hc:∀j,j<len->w.cell? ⟨b,off+j,none⟩=some (.int .u32 (xs j)))
  (hn:n<=len) (hz:∀j,n<=j->j<len->xs j=0) (hnz:n=0\/xs (n-1)≠0):
  Calls Tryz.prog 166 #[.slice (some ⟨b,off,none⟩) len cap] w λe w'=>e=.returned (.slice (some ⟨b,off,none⟩) n cap)/\w=w':=by
 go_enter Tryz.func166,Tryz.ntmps166
 go_wp2
 go_loop [3] (λi=>∃k:Nat,i=.int .i64 k/\n<=k/\k<=len) (λi=>(intOf i).toNat)
 case atStart=>exact⟨len,rfl,hn,jb⟩
 case round=>
  obtain⟨k,rfl,h1,h2⟩:=hrel;by_cases hk:k=n
  .subst hk;by_cases h0:k=0
   .subst h0;go_wp2;go_ret;exact⟨rfl,rfl⟩
   .have h3:xs (k-1)≠0:=jb;have hcell:=hc (k-1) jb;clear hc hz;have hb:((xs (k-1):Int)==0)=false:=by simp;omega
    go_wp2;go_ret;exact⟨rfl,rfl⟩
  .have hcell:=hc (k-1) jb;have hz1:=hz (k-1) jb jb;clear hc hz;rw[hz1]at hcell;clear hz1;go_wp2;go_round
   case rel=>exact⟨k-1,by go_num,jb,jb⟩
   case measure=>simp[intOf];omega
def CG(w0:World)(b len:Nat)(T:TypeId)(f:Nat->Nat)(w:World)(hl:len<=4294967296)(hr:Row w b T .u32 len f)(hf:∀j,j<len->f j<LB)(hbel:Below w0.heap.size w0 w):
  Calls Tryz.prog 166 #[.slice (some ⟨b,0,none⟩) len len] w (GN w0 (lv f len)):=
 (QD b 0 len len f (FQ f len) w hl jp hr.reads (yD f len) (I8 f len) (MJ f len)).mono (by rintro e w' ⟨rfl,rfl⟩;refine⟨_,_,_,rfl,yD f len,jb,⟨f,abv f len,V3 hf,?_⟩,hbel⟩;exact .inr ⟨b,0,rfl,λj hj=>hr.reads j (aL hj (yD f len))⟩)
def parse_any(s:ByteArray)(w:World)(hs:s.size<=1073741824):
  Calls Tryz.prog 117 #[.string s] w (GN w (nv s)):=by
 obtain⟨n,hn1,hn2,hn⟩:∃n,s.size<=4*n/\4*n<=s.size+3/\Hid (n=(s.size+3)/4):=⟨_,jb,jb,rfl⟩
 go_enter Tryz.func117,Tryz.ntmps117
 go_wp2_with (refine iF _ _ 175 177 .u32 4 n _ rfl rfl Tryz.underlying175 wI rfl rfl (by have:=hn.out;omega) jb jb ?_;intro w1 hr1 hb1 hz1)
 go_loopw [13] (λi wr=>∃k:Nat,i=.int .i64 k/\k<=s.size/\Row wr w.heap.size 177 .u32 n (pw (byt s) k)/\Below w.heap.size w wr) (λi _=>s.size-(intOf i).toNat)
 case atStart=>exact⟨0,rfl,jb,hr1.congr (λj _=>(abw _ _).symm),hb1⟩
 case round=>
  obtain⟨k,rfl,hk,hrow,hbel⟩:=hrel;clear hr1 hb1 hz1;by_cases hlt:k<s.size
  .have hcell:=hrow.cell (j:=k/4) jb;have hfr:=hrow.frozen (k/4);go_wp2;have q2:((k:Int)/4).toNat=k/4:=jb;have q9:((s.size:Int)-1-k).toNat=s.size-1-k:=jb;refine wp_region_still_tail 19 (by kernel_rfl) (by kernel_rfl) ?_;simp only[gj,cM,List.drop_succ_cons,ip];repeat(refine wpStill_step (λK hK=>?_);go_simp;(try simp(disch:=omega) only[ar9]);(first|(refine hK _ ?_;clear hK K)|(simp(disch:=omega) only[ab,dif_pos,ae,dif_neg,ar9];go_simp;refine hK _ ?_;clear hK K)))
   refine wpStill_nil ?_;change wpList _ _ _ _ _ (World.drew _);go_wp2;go_round
   case rel=>
    refine⟨k+1,by go_num,jb,?_,(hbel.setCell jp _).drew⟩;have hb:=Tm (s) k;have hx:=apJ (Tm s) k;have hy:=aoB (Tm s) (k+1) (k/4);rw[Tn,upd_same]at hy;rw[apI s k jb];have e1:((byt s k:Int)%4294967296)=(byt s k:Int):=jb;have e2:(byt s k:Int)*2^(8*(k%4))%4294967296=(byt s k:Int)*2^(8*(k%4)):=by
     have:byt s k*2^(8*(k%4))<4294967296:=by unfold LB at hy;omega
     have h3:(byt s k:Int)*2^(8*(k%4))=((byt s k*2^(8*(k%4)):Nat):Int):=by push_cast;rfl
     rw[h3];omega
    rw[e1,e2,afU _ _ _ hx hy];exact(hrow.set (k/4) _).drew.congr λj _=>(Tn _ _ _).symm
   case measure=>simp[intOf];omega
  .obtain rfl:k=s.size:=jb;go_wp2_with fail;refine(CG w _ n 177 _ _ jb hrow (λj _=>aoB (Tm s) _ j) hbel).mono ?_;rintro e w' ⟨a,len,cap,rfl,h1,h2,h3,h4⟩;rw[at1 _ hn1,afP]at h3;go_wp2;go_ret;exact⟨a,len,cap,rfl,h1,h2,h3,h4⟩
def aua:Value->Nat|.string s=>s.size|_=>0
def akS(t:ByteArray)(h:0<t.size)(h0:t[0].toNat=0):nv (t.extract 1 t.size)=nv t/\(t.extract 1 t.size).size+1=t.size:=by
 have e:(t.extract 1 t.size).data.toList=t.data.toList.tail:=by rw[Lib.extract_data];simp;rw[fe];rw[List.length_tail];exact jp
 constructor
 .unfold nv;rw[e];have hs:t.data.toList.length=t.size:=rfl;cases hl:t.data.toList with
  |nil=>rw[hl]at hs;simp at hs;omega
  |cons x r=>
   have hx:t[0]=x:=by have:t[0]=t.data.toList[0]'(by rw[hs];exact h):=rfl;rw[this];simp[hl]
   rw[hx]at h0
   rw[List.tail_cons,yE,h0];simp
 .have h2:(t.extract 1 t.size).data.toList.length=t.data.toList.tail.length:=by rw[e]
  have h3:t.data.toList.length=t.size:=rfl;have h4:(t.extract 1 t.size).data.toList.length=(t.extract 1 t.size).size:=rfl;rw[List.length_tail]at h2;omega
def akT{t:ByteArray}(h:0<t.size)(h0:t[0].toNat≠0):bn (nv t)=t:=by
 apply QB;have hs:t.data.toList.length=t.size:=rfl;cases hl:t.data.toList with
 |nil=>simp
 |cons x r=>
  have hx:t[0]=x:=by have:t[0]=t.data.toList[0]'(by rw[hs];exact h):=rfl;rw[this];simp[hl]
  rw[hx]at h0
  simp only[List.head?_cons,ne_eq,br]
  intro e;apply h0;rw[e];rfl
def GR{t:ByteArray}(h:t.size=0):bn (nv t)=t:=by apply QB;have hs:t.data.toList.length=t.size:=rfl;have:t.data.toList=[]:=gh.mp jb;rw[this];simp
def GU(s:ByteArray)(w:World)(hs:s.size<=9223372036854775807):
  Calls Tryz.prog 200 #[.string s,.int .u8 0] w λe w'=>e=.returned (.string (bn (nv s)))/\w=w':=by
 go_enter Tryz.func200,Tryz.ntmps200
 go_wp2
 go_loop [0] (λv=>∃t:ByteArray,v=.string t/\t.size<=s.size/\nv t=nv s) (λv=>aua v)
 case atStart=>exact⟨s,rfl,jp,rfl⟩
 case round=>
  obtain⟨t,rfl,h1,h2⟩:=hrel;by_cases h0:t.size=0
  .go_wp2;go_ret;exact⟨Ec (by rw[<-h2,GR h0]),rfl⟩
  .have h3:0<t.size:=jb;have HT:=akS t h3;have HB:=akT h3;have HH:=And.intro HT HB;have H:Hid _:=HH;clear HT HB HH;go_wp2
   .have hc:(t[0].toNat:Int)==0:=by assumption
    have hc':t[0].toNat=0:=by simpa using hc
    obtain⟨e1,e2⟩:=H.out.1 hc';go_round
    case rel=>exact⟨_,rfl,jb,e1.trans h2⟩
    case measure=>simp[aua];omega
   .have hc:((t[0].toNat:Int)==0)=false:=by assumption
    have hc':t[0].toNat≠0:=by simpa using hc
    go_ret;exact⟨Ec (by rw[<-h2,H.out.2 hc']),rfl⟩
def Kw{s:ByteArray}(h:s.size=0):s=⟨#[]⟩:=by obtain⟨⟨l⟩⟩:=s;have:l=[]:=gh.mp h;rw[this]
def PZ{s:ByteArray}(h:¬s.size=0):s.toList.isEmpty=false/\¬s.toList=[]:=by
 obtain⟨⟨l⟩⟩:=s;rw[ByteArray.toList_eq];cases l with
 |nil=>exact absurd rfl h
 |cons _ _=>exact⟨rfl,by simp⟩
def P6(s:ByteArray)(w:World)(hs:s.size<=9223372036854775807):
  Calls Tryz.prog 164 #[.string s,.string ⟨#[0]⟩] w λe w'=>e=.returned (.string (bn (nv s)))/\w=w':=by
 by_cases h0:s.size=0
 .have hx:=GR h0
  obtain rfl:=Kw h0
  have H:=jx hx
  clear h0 hs hx
  go_enter Tryz.func164,Tryz.ntmps164
  go_wp2
  go_ret
  exact⟨Ec H.out.symm,rfl⟩
 .obtain⟨hd1,hd2⟩:=PZ h0
  have hlit:(({data:=#[0]}:ByteArray)[0].toNat:Int)=0:=rfl
  go_enter Tryz.func164,Tryz.ntmps164
  go_wp2_with (go_at_call 200;refine(GU s _ hs).mono ?_;rintro e w' ⟨rfl,rfl⟩)
  go_ways
  go_ret
  exact⟨rfl,rfl⟩
def oU(s:ByteArray)(w:World)(hs:s.size<=9223372036854775807):
  Calls Tryz.prog 114 #[.string s] w λe w'=>e=.returned (.string (bn (nv s)))/\w=w':=by
 go_enter Tryz.func114,Tryz.ntmps114
 go_wp2_with (go_at_call 164;refine(P6 s _ hs).mono ?_;rintro e w' ⟨rfl,rfl⟩)
 go_ret
 exact⟨rfl,rfl⟩
def Zr(g:Nat->Nat)(n:Nat):ByteArray:=⟨((List.range n).map λj=>UInt8.ofNat (g j)).toArray⟩
def Ed(g:Nat->Nat)(n:Nat):(Zr g n).size=n:=by show((List.range n).map λj=>UInt8.ofNat (g j)).toArray.size=n;simp
def akU(g:Nat->Nat)(n:Nat)(hg:∀j,j<n->g j<256):nv (Zr g n)=bl (λk=>g (n-1-k)) n:=by rw[<-afP,Ed];apply MQ;intro k hk;unfold byt;rw[Ed];have:(Zr g n).data.toList=(List.range n).map λj=>UInt8.ofNat (g j):=rfl;rw[this,eV,List.getElem?_map,List.getElem?_range jb];have:=hg (n-1-k) jb;simp;omega
def Row.str{P:Program}{w:World}{b n:Nat}{T src dst e:TypeId}{g:Nat->Nat}(h:Row w b T .u8 n g)(cap:Nat)
  (hs:P.underlying src=some (.slice e)) (he:P.underlying e=some (.int .u8)) (hd:P.underlying dst=some .string):
  (convert src dst (.slice (some ⟨b,0,none⟩) n cap)).run P w=.ok (.string (Zr g n)) w:=by
 have:=run_convert_bytes_arg (P:=P) w src e hs he b 0 n cap ((List.range n).map λj=>(g j:Int)) kc (λi hi=>by rw[cP,h.cell hi,eV,List.getElem?_map,List.getElem?_range hi];rfl) dst hd
 rw[this]
 congr 2
 unfold strOfNums Zr
 rw[List.map_map]
 congr 2
def zL(b off len cap:Nat)(f:Nat->Nat)(w:World)(hl:len<=1073741824)(hcap:len<=cap)
  (hc:Reads w b off .u32 len f) (hf:∀j,j<len->f j<LB):
  Calls Tryz.prog 118 #[.slice (some ⟨b,off,none⟩) len cap] w λe w'=>e=.returned (.string (bn (lv f len)))/\Below w.heap.size w w':=by
 obtain⟨n,hn⟩:∃n,n=4*len:=⟨_,rfl⟩
 have hn1:n<=4*len:=jb
 have hn2:4*len<=n:=jb
 have hnn:=jx hn
 clear hn
 go_enter Tryz.func118,Tryz.ntmps118
 go_wp2_with (refine iF _ _ 62 5 .u8 1 n _ rfl rfl Tryz.underlying62 afX rfl rfl jb jb jb ?_;intro w1 hr1 hb1 hz1)
 go_loopw [11] (λi wr=>∃k:Nat,i=.int .i64 k/\k<=n/\Row wr w.heap.size 5 .u8 n (λj=>if n<=j+k then lby f (n-1-j)else 0)/\Below w.heap.size w wr) (λi _=>n-(intOf i).toNat)
 case atStart=>exact⟨0,rfl,jb,hr1.congr (λj hj=>by rw[ae jb]),hb1⟩
 case round=>
  obtain⟨k,rfl,hk,hrow,hbel⟩:=hrel;clear hr1 hb1 hz1;by_cases hlt:k<n
  .have hbw:b<w.heap.size:=hc.lt jb;have hcell:=(hc.below hbel hbw) (k/4) jb;have hfr:=hrow.frozen (n-1-k);have hold:=hrow.cell (j:=n-1-k) jb;rw[ae jb]at hold;clear hc;go_wp2;go_round
   case rel=>
    refine⟨k+1,by go_num,jb,?_,(hbel.setCell jp _)⟩;have e1:((f (k/4):Int)/2^(8*(k%4))%256)=((lby f k:Nat):Int):=by unfold lby;push_cast;rfl
    rw[e1];refine(hrow.set (n-1-k) _).congr λj hj=>?_;by_cases hj2:j=n-1-k
    .subst hj2;rw[upd_same,ab jb];congr 1;omega
    .rw[dH _ _ _ hj2];by_cases h3:n<=j+k
     .rw[ab h3,ab jb]
     .rw[ae h3,ae jb]
   case measure=>simp[intOf];omega
  .obtain rfl:k=n:=jb;have hcv:=hrow.str (P:=Tryz.prog) (src:=62) (dst:=9) k Tryz.underlying62 Tryz.underlying5 Tryz.underlying9;have hsz:=Ed (λj=>if k<=j+k then lby f (k-1-j)else 0) k;have hnv:nv (Zr (λj=>if k<=j+k then lby f (k-1-j)else 0) k)=lv f len:=by rw[akU _ _ (λj _=>by split;exact df _ jb;omega)];rw[<-apP hf,<-hnn.out];apply MQ;intro j hj;rw[ab jb];congr 1;omega
   generalize Zr (λj=>if k<=j+k then lby f (k-1-j)else 0) k=t at*;have H:=jx hnv;have H2:t.size<=9223372036854775807:=jb;clear hnv hrow hc hsz hcap;go_wp2_with (go_at_call 114;refine(oU _ _ jb).mono ?_;rintro e w' ⟨rfl,rfl⟩)
   go_ret;exact⟨Ec (by rw[H.out]),hbel⟩
def qL(x y:Nat):Int:=if x<y then-1 else if y<x then 1 else 0
def yG{x y:Nat}(h:x<y):qL x y=-1:=by unfold qL;rw[ab h]
def Ee{x y:Nat}(h:y<x):qL x y=1:=by unfold qL;rw[ae jb,ab h]
def TB(x:Nat):qL x x=0:=by unfold qL;rw[ae jb,ae jb]
def Ky:∀(l r:List UInt8),l.length=r.length->Lib.compareBytes l r=qL (bv l) (bv r):=by
 intro l;induction l with
 |nil=>intro r h;cases r with
  |nil=>rfl
  |cons _ _=>simp at h
 |cons a l ih=>
  intro r h
  cases r with
  |nil=>simp at h
  |cons b r=>
   have hl:l.length=r.length:=by simpa using h
   unfold Lib.compareBytes
   have h1:=J4 l
   have h2:=J4 r
   rw[yE,yE,hl]
   rw[hl]at h1
   by_cases c1:a<b
   .rw[ab c1]
    have:a.toNat<b.toNat:=c1
    have:a.toNat*256^r.length+256^r.length<=b.toNat*256^r.length:=by rw[<-cB];exact bw _ this
    rw[yG jb]
   .rw[ae c1]
    by_cases c2:b<a
    .rw[ab c2]
     have:b.toNat<a.toNat:=c2
     have:b.toNat*256^r.length+256^r.length<=a.toNat*256^r.length:=by rw[<-cB];exact bw _ this
     rw[Ee jb]
    .rw[ae c2,ih r hl]
     have e:a.toNat=b.toNat:=by have c1':¬a.toNat<b.toNat:=c1;have c2':¬b.toNat<a.toNat:=c2;omega
     rw[e];unfold qL
     congr 1
     .simp
     .congr 1;simp
def QE(a:Option Addr)(cap:Nat)(w:World):
  Calls Tryz.prog 118 #[.slice a 0 cap] w λe w'=>e=.returned (.string (bn 0))/\Below w.heap.size w w':=by
 go_enter Tryz.func118,Tryz.ntmps118
 go_wp2_with (refine iF _ _ 62 5 .u8 1 0 _ rfl rfl Tryz.underlying62 afX rfl rfl jb jb jb ?_;intro w1 hr1 hb1 hz1)
 go_loopw [11] (λi wr=>i=.int .i64 0/\wr=w1) (λi _=>0)
 case atStart=>exact⟨rfl,rfl⟩
 case round=>
  obtain⟨rfl,rfl⟩:=hrel;have hcv:=hr1.str (P:=Tryz.prog) (src:=62) (dst:=9) 0 Tryz.underlying62 Tryz.underlying5 Tryz.underlying9;clear hr1 hz1;go_wp2_with (go_at_call 114;refine(oU _ _ ?_).mono ?_;(rw[Ed];omega);rintro e w' ⟨rfl,rfl⟩)
  go_ret;exact⟨rfl,hb1⟩
def GV(a:Option Addr)(len cap x:Nat)(w:World)(h:Limbs w a len x)(hl:len<=1073741824)(hcap:len<=cap):
  Calls Tryz.prog 118 #[.slice a len cap] w λe w'=>e=.returned (.string (bn x))/\Below w.heap.size w w':=by
 obtain⟨f,rfl,h2,h3⟩:=h
 rcases h3 with rfl|⟨b,off,rfl,hr⟩
 .exact QE a cap w
 .exact zL b off len cap f w hl hcap hr h2.1
def Zt(n:Int):Int:=if n<0 then-1 else if 0<n then 1 else 0
def TD{n:Int}(h:n<0):Zt n=-1:=by unfold Zt;rw[ab h]
def TF{n:Int}(h:0<n):Zt n=1:=by unfold Zt;rw[ae jb,ab h]
def V7(n:Int)(w:World):Calls Tryz.prog 115 #[.int .i64 n] w λe w'=>e=.returned (.int .i64 (Zt n))/\w=w':=by
 rcases(show n<0\/0<n\/n=0 by omega)with h1|h1|rfl
 .have h2:decide (n<0)=true:=by simpa using h1
  go_enter Tryz.func115,Tryz.ntmps115;go_wp2;go_ret;exact⟨wE (TD h1).symm,rfl⟩
 .go_enter Tryz.func115,Tryz.ntmps115;go_wp2;go_ret;exact⟨wE (TF h1).symm,rfl⟩
 .go_enter Tryz.func115,Tryz.ntmps115;go_wp2;go_ret;exact⟨rfl,rfl⟩
def afZ(a b:ByteArray)(w:World):Sem.run Tryz.prog (callFunc 204 #[Value.string a,Value.string b]) w=Sem.run Tryz.prog (do let v<-(Extern.BytealgCompare.compare #[.string a,.string b]);pure (Next.value v)) w:=by kernel_rfl
def akV(a b:ByteArray)(w:World):Sem.run Tryz.prog (callFunc 204 #[Value.string a,Value.string b]) w=.ok (Next.value (.int .i64 (Lib.compareBytes a.data.toList b.data.toList))) w:=by rw[afZ,Sem.run_bind,Lib.run_compareString];rfl
def Zu(a b:ByteArray)(w:World):Calls Tryz.prog 165 #[.string a,.string b] w λe w'=>e=.returned (.int .i64 (Lib.compareBytes a.data.toList b.data.toList))/\w=w':=by have hx:=λw=>akV a b w;go_enter Tryz.func165,Tryz.ntmps165;go_wp2;go_ret;exact⟨rfl,rfl⟩
def Zv(a b:ByteArray)(w:World):Calls Tryz.prog 116 #[.string a,.string b] w λe w'=>e=.returned (.int .i64 (Lib.compareBytes a.data.toList b.data.toList))/\w=w':=by
 go_enter Tryz.func116,Tryz.ntmps116;go_wp2_with (go_at_call 165;refine(Zu _ _ _).mono ?_;rintro e w' ⟨rfl,rfl⟩)
 go_ret;exact⟨rfl,rfl⟩
def QF{x y:Nat}(h:(bn x).size<(bn y).size):x<y:=by have h1:(MN x).length<(MN y).length:=h;have h2:=J4 (MN x);have h3:256^((MN y).length-1)<=bv (MN y):=V4 (MO y) (by intro e;rw[e]at h1;simp at h1);rw[Tj]at h2 h3;have:256^(MN x).length<=256^((MN y).length-1):=bL jb jb;omega
def AB(s:ByteArray):(bn (nv s)).size<=s.size:=nK (MP s)
def TG(a b:ByteArray)(w:World)(ha:a.size<=1073741824)(hb:b.size<=1073741824):
  Calls Tryz.prog 61 #[.string a,.string b] w λe w'=>e=.returned (.int .i64 (qL (nv a) (nv b)))/\w=w':=by
 have ha2:=AB a
 have hb2:=AB b
 obtain⟨x,hx⟩:∃x,x=bn (nv a):=⟨_,rfl⟩
 obtain⟨y,hy⟩:∃y,y=bn (nv b):=⟨_,rfl⟩
 have n1:Calls Tryz.prog 114 #[.string a] w λe w'=>e=.returned (.string x)/\w=w':=by rw[hx];exact oU a w jb
 have n2:Calls Tryz.prog 114 #[.string b] w λe w'=>e=.returned (.string y)/\w=w':=by rw[hy];exact oU b w jb
 rw[<-hx]at ha2
 rw[<-hy]at hb2
 have Hx:=jx hx
 have Hy:=jx hy
 have N1:=jx n1
 have N2:=jx n2
 clear hx hy n1 n2
 by_cases hlen:x.size=y.size
 .have hcmp:Lib.compareBytes x.data.toList y.data.toList=qL (nv a) (nv b):=by
   rw[Ky _ _ hlen];have e1:bv x.data.toList=nv a:=by rw[Hx.out];exact iy _
   have e2:bv y.data.toList=nv b:=by rw[Hy.out];exact iy _
   rw[e1,e2]
  have HC:=jx hcmp
  have HL:((x.size:Int)==(y.size:Int))=true:=by simp;omega
  have HL2:((x.size:Int) !=(y.size:Int))=false:=by simp;omega
  clear hcmp hlen
  go_enter Tryz.func61,Tryz.ntmps61
  go_wp2_with fail
  refine N1.out.mono ?_;rintro e w' ⟨rfl,rfl⟩
  go_wp2_with fail
  refine N2.out.mono ?_;rintro e w' ⟨rfl,rfl⟩
  go_wp2_with fail
  refine(Zv _ _ _).mono ?_;rintro e w' ⟨rfl,rfl⟩
  go_wp2
  go_ret
  exact⟨wE HC.out,rfl⟩
 .have HL2:((x.size:Int) !=(y.size:Int))=true:=by simp;omega
  have hcmp:Zt ((x.size:Int)-y.size)=qL (nv a) (nv b):=by
   rcases(show x.size<y.size\/y.size<x.size by omega)with h|h
   .rw[TD jb];rw[Hx.out,Hy.out]at h;rw[yG (QF h)]
   .rw[TF jb];rw[Hx.out,Hy.out]at h;rw[Ee (QF h)]
  have HC:=jx hcmp
  clear hcmp hlen
  go_enter Tryz.func61,Tryz.ntmps61
  go_wp2_with fail
  refine N1.out.mono ?_;rintro e w' ⟨rfl,rfl⟩
  go_wp2_with fail
  refine N2.out.mono ?_;rintro e w' ⟨rfl,rfl⟩
  go_wp2_with fail
  refine(V7 _ _).mono ?_;rintro e w' ⟨rfl,rfl⟩
  go_wp2
  go_ret
  exact⟨wE HC.out,rfl⟩
end Go.Proofs.Ins
namespace Go.Proofs.Ins
theorem nM(q:Rat):(sg q=-1/\q<0)\/(sg q=0/\q=0)\/(sg q=1/\0<q):=by
 unfold sg;by_cases h:q=0
 .rw[ab h];exact .inr (.inl ⟨rfl,h⟩)
 .rw[ae h];by_cases h2:q<0
  .rw[ab h2];exact .inl ⟨rfl,h2⟩
  .rw[ae h2];exact .inr (.inr ⟨rfl,by grind⟩)
def Zw{p q:Rat}(h:sg p<sg q):oQ p q=-1:=by apply Gz;rcases nM p with⟨e1,h1⟩|⟨e1,h1⟩|⟨e1,h1⟩<;>rcases nM q with⟨e2,h2⟩|⟨e2,h2⟩|⟨e2,h2⟩<;>first|omega|grind
def Zx{p q:Rat}(h:sg q<sg p):oQ p q=1:=by apply GH;rcases nM p with⟨e1,h1⟩|⟨e1,h1⟩|⟨e1,h1⟩<;>rcases nM q with⟨e2,h2⟩|⟨e2,h2⟩|⟨e2,h2⟩<;>first|omega|grind
def af0{p q:Rat}(h:sg p=sg q):rn p=rn q:=by
 rcases nM p with⟨e1,h1⟩|⟨e1,h1⟩|⟨e1,h1⟩<;>rcases nM q with⟨e2,h2⟩|⟨e2,h2⟩|⟨e2,h2⟩<;>first
  |omega
  |rw[TA.mpr h1,TA.mpr h2]
  |rw[Na.mpr kd,Na.mpr kd]
def ady{p q:Rat}(h:sg p=sg q):oQ p q=if rn p=true then-(qL (nm p*q.den) (nm q*p.den))else qL (nm p*q.den) (nm q*p.den):=by
 have hn:=af0 h;have e1:=MZ p;have e2:=MZ q;have h1:=Rat.lt_iff p q;have h2:=Rat.lt_iff q p;rw[<-e1,<-e2,<-hn]at h1 h2;obtain⟨X,hX⟩:∃X,X=nm p*q.den:=⟨_,rfl⟩
 obtain⟨Y,hY⟩:∃Y,Y=nm q*p.den:=⟨_,rfl⟩
 have c1:(nm p:Int)*q.den=(X:Int):=by rw[hX,eE]
 have c2:(nm q:Int)*p.den=(Y:Int):=by rw[hY,eE]
 rw[<-hX,<-hY];have heq:X=Y->p=q:=λe=>by
  rw[Rat.eq_iff_mul_eq_mul,<-e1,<-e2,<-hn];unfold wF;split
  .rw[Int.neg_mul,Int.neg_mul,c1,c2,e]
  .rw[c1,c2,e]
 cases hr:rn p
 .rw[hr]at h1 h2;simp only[wF,dp,if_false]at h1 h2⊢;rw[c1,c2]at h1 h2;rcases Nat.lt_trichotomy X Y with h3|h3|h3
  .rw[yG h3,Gz (h1.mpr jb)]
  .rw[heq h3,KW,h3,TB]
  .rw[Ee h3,GH (h2.mpr jb)]
 .rw[hr]at h1 h2;simp only[wF,if_true,Int.neg_mul]at h1 h2⊢;rw[c1,c2]at h1 h2;rcases Nat.lt_trichotomy X Y with h3|h3|h3
  .rw[yG h3,GH (h2.mpr jb)];rfl
  .rw[heq h3,KW,h3,TB];rfl
  .rw[Ee h3,Gz (h1.mpr jb)]
end Go.Proofs.Ins
namespace Go.Proofs.Ins
open Go.RowKit
structure R3 where
 n:Bool
 s:ByteArray
 d:ByteArray
instance:Inhabited R3:=⟨⟨false,⟨#[]⟩,⟨#[]⟩⟩⟩
def R3.c(r:R3):List Value:=[.bool r.n,.string r.s,.string r.d]
def R3.q(r:R3):Rat:=rq r.n r.s r.d
def R3.small(r:R3):Prop:=r.s.size<=24/\r.d.size<=24
instance (r:R3):Decidable r.small:=by unfold R3.small;infer_instance
def R3.fits(r:R3)(k:Nat):Prop:=r.s.size<=k/\r.d.size<=k
def vY(q:Rat):R3:=⟨rn q,rs q,rd q⟩
theorem J5(q:Rat):(vY q).q=q:=Fj q
def V9{q:Rat}{k:Nat}(h:Sm k q):(vY q).fits k:=⟨h.rs,h.rd⟩
structure V8 where
 p:Int
 a:R3
 k:R3
 x:Bool
instance:Inhabited V8:=⟨⟨0,default,default,false⟩⟩
def V8.c(v:V8):List Value:=[.int .i64 v.p,.bool v.a.n,.string v.a.s,.string v.a.d,.bool v.k.n,.string v.k.s,.string v.k.d,.bool v.x]
def axr(w:World)(T:TypeId)(n sz:Nat)(F:Nat->List Value)(e:Ending)(w':World):Prop:=
 ∃v,e=.returned v/\lM w' w.heap.size T sz v n F/\Below w.heap.size w w'
def c16(L:Nat->Nat)(i:Nat):List Value:=[.int .u16 (L i:Int)]
def akW:(Tryz.prog.info? 3).map (λi=>(i.zero.map (λz=>z.cells.size),i.size,i.bytes))=some (some 1,1,8):=by kernel_rfl
end Go.Proofs.Ins
namespace Go.Proofs.Ins
open Go Go.RowKit Go.ChangeShapes Go.WideShapes Go.Deep
section
variable {H:Type} {enc:TypeId×Value→H} {P:Program} {W:World} {sp:Nat→Bool} {held:Bool}
def Light(P:Program)(t:TypeId)(d:DataW H):Prop:=∀n∈d.weights P t,n<=140737488351232
def zN{ts:List TypeId}{ds:List (DataW H)}(h:(DataW.weightsEach P ts ds).all (·<=reachBytes)=true){j:Nat}{t:TypeId}{d:DataW H}(ht:ts[j]?=some t)(hd:ds[j]?=some d):Light P t d:=λn hn=>by have:=eM.1 h _ (DataW.weights_mem_each ht hd n hn);exact cI this
def BI{e:TypeId}:∀{l:List (DataW H)}{d:DataW H},d∈l->∀n∈d.weights P e,n∈DataW.weightsAll P e l
 |d'::r,d,hd,n,hn=>by
  simp only[DataW.weightsAll,ck];rcases bA.1 hd with rfl|h
  .exact Or.inl hn
  .exact Or.inr (BI h n hn)
def Zy{t e:TypeId}{l sp:List (DataW H)}{d:DataW H}(ht:P.underlying t=some (.slice e))(h:Light P t (.slice l sp))(hd:d∈l):Light P e d:=λn hn=>h n (by simp only[DataW.weights,ht,bA,ck];exact .inr (.inl (BI hd n hn)))
def adz{t e:TypeId}{l sp:List (DataW H)}(ht:P.underlying t=some (.slice e))(h:Light P t (.slice l sp))(he:0<P.bytesOf e):l.length<=140737488351232:=by have:=h ((l.length+sp.length)*P.bytesOf e) (by simp[DataW.weights,ht]);have h2:=gi (l.length+sp.length) he;omega
def Ef{t e:TypeId}{fuel k:Nat}{cs:List Value}{x:DataW H×List MemPlace}(ht:P.underlying t=some (.slice e))(hk:P.cellsOf e=k)(hk0:0<k)(he:0<P.bytesOf e)(h:DataW.trod enc P W 0 sp held fuel t cs=some x)(hL:Light P t x.1):
  ∃(a:Option Addr) (len cap:Nat) (C:Nat->List Value),cs=[.slice a len cap]/\len<=140737488351232/\Zh W a len k C/\∀i,i<len->(C i).length=k/\∃n y,DataW.trod enc P W 0 sp held n e (C i)=some y/\Light P e y.1:=by
 rcases open_slice ht h with⟨rfl,-⟩|⟨a,len,cap,m,n,D,Pl,rfl,-,hl,hm,hmm,rfl,hx⟩
 .exact⟨none,0,0,λ_=>[],rfl,jb,.inl rfl,λi hi=>jb⟩
 .have hlm:len<=m:=by rw[hmm];split<;>omega
  obtain⟨C,hC⟩:=choose_lt (α:=List Value) (p:=λi c=>W.cells? 0 (a.add (i*P.cellsOf e)) (P.cellsOf e)=some c/\DataW.trod enc P W 0 sp held n e c=some (D i,Pl i)) (λi hi=>hx i hi)
  have hlen:=adz ht hL he
  rw[di,List.length_range]at hlen
  refine⟨some a,len,cap,C,rfl,hlen,?_,λi hi=>⟨?_,n,_,(hC i jb).2,Zy ht hL (cV.2 ⟨i,by simpa using hi,rfl⟩)⟩⟩
  .rcases eJ len with h0|h0
   .exact .inl h0
   .obtain⟨b,off,spot⟩:=a
    obtain⟨_,hlen,hget⟩:=World.cells?_some (hC 0 jb).1
    have h00:=hget 0 jb
    rw[fY jb]at h00
    have hspot:spot=none:=by simpa [Addr.add]using World.cell?_spot h00
    subst hspot
    have hadd:∀i j,((⟨b,off,none⟩:Addr).add (i*k)).add j=⟨b,off+i*k+j,none⟩:=λi j=>by unfold Addr.add;by_cases h1:i*k=0<;>by_cases h2:j=0<;>simp[h1,h2]
    refine .inr ⟨b,off,rfl,?_,λi j hi hj=>?_⟩
    .have:=block_lt_of_cell h00
     simpa [Addr.add]using this
    .obtain⟨_,_,hg⟩:=World.cells?_some (hC i jb).1
     have:=hg j jb
     rw[hk,hadd]at this
     exact this
  .obtain⟨_,hlen,_⟩:=World.cells?_some (hC i jb).1
   rw[hlen,hk]
end
section
variable {H:Type} {enc:TypeId×Value→H} {W:World} {sp:Nat→Bool} {held:Bool}
def qx{fuel:Nat}{cs:List Value}{x:DataW H×List MemPlace}(h:DataW.trod enc Tryz.prog W 0 sp held fuel 55 cs=some x):∃m:Nat,cs=[.int .u16 (m:Int)]/\m<=65535:=by
 obtain⟨n,rfl,-,hw⟩:=DataW.trod_int Tryz.underlying55 h;have hw2:0<=n/\n<=65535:=by simpa [Lit.wf,IntKind.min,IntKind.max,IntKind.signed,IntKind.bits]using hw
 exact⟨n.toNat,by rw[ff hw2.1],jb⟩
end
def Zh.congr{w:World}{a:Option Addr}{n sz:Nat}{F G:Nat->List Value}(h:Zh w a n sz F)(hg:∀i,i<n->F i=G i):Zh w a n sz G:=by
 rcases h with h|⟨b,off,ha,hl,hr⟩
 .exact .inl h
 .exact .inr ⟨b,off,ha,hl,λi j hi hj=>by rw[<-hg i hi];exact hr i j hi hj⟩
section
variable {H:Type} {enc:TypeId×Value→H} {W:World} {sp:Nat→Bool} {held:Bool}
def af2{fuel:Nat}{cs:List Value}{x:DataW H×List MemPlace}(h:DataW.trod enc Tryz.prog W 0 sp held fuel 22 cs=some x)(hL:Light Tryz.prog 22 x.1):
  ∃a n cap,∃M:Nat->Nat,cs=[.slice a n cap]/\n<=140737488351232/\Zh W a n 1 (c16 M)/\∀i,i<n->M i<=65535:=by
 obtain⟨a,n,cap,C,rfl,hn,hs,hx⟩:=Ef (k:=1) Tryz.underlying22 (by kernel_rfl) jb (cI (by kernel_rfl)) h hL
 obtain⟨M,hM⟩:=choose_lt (α:=Nat) (p:=λi m=>C i=[.int .u16 (m:Int)]/\m<=65535) (λi hi=>by obtain⟨_,n,y,h1,h2⟩:=hx i hi;exact qx h1)
 exact⟨a,n,cap,M,rfl,hn,hs.congr λi hi=>(hM i hi).1,λi hi=>(hM i hi).2⟩
def Fq{P:Program}(hl:laidOutB P=true){W W':World}(hb:Below W.heap.size W W'):∀{ts:List TypeId}{vs:List Value}{ds:List (DataW H)}{p:List MemPlace},
  (ts.all λt=>P.readableRec t&&decide (t<P.types.size))=true->DataW.TrodAll enc P W 0 (λ_=>true) true ts vs ds p->(∀x∈p,x.block<W.heap.size)->DataW.TrodAll enc P W' 0 (λb=>decide (b<W.heap.size)) true ts vs ds p
 |[],_,_,_,_,h,_=>by obtain⟨rfl,rfl,rfl⟩:=trodAll_nil h;exact h
 |t::ts,_,_,_,ht,h,hp=>by obtain⟨v,vs1,d,ds1,a,b,rfl,rfl,rfl,h1,h2⟩:=trodAll_cons h;simp only[cW,af,fO]at ht;exact⟨a,b,Below.trod hl ht.1.1 ht.1.2 h1 hb (λx hx=>hp x (iz _ hx)),Fq hl hb ht.2 h2 (λx hx=>hp x (List.mem_append_right _ hx)),rfl⟩
end
def laidOut':laidOutB Tryz.prog=true:=by kernel_rfl
end Go.Proofs.Ins
namespace Go.Proofs.Ins
open Go Go.RowKit Go.ChangeShapes Go.WideShapes Go.ChangeAt Go.Proofs.YtchhojplceoifaaGreatDoor
def own':ownKnob Tryz.prog.godebug=none:=by kernel_rfl
def abD:List (String×DataW Unit):=[("unicode/utf8.acceptRanges",Rows.laid_unicode_utf8_acceptRanges),("unicode/utf8.first",Rows.laid_unicode_utf8_first)]
section
variable {H:Type} {enc:TypeId×Value→H} {W:World}
def zO{P:Program}{r:Reach}{b:Nat}{t e:TypeId}{v:Value}{d:DataW H}{p:List MemPlace}{sp:Nat->Bool}{held:Bool}(ht:P.underlying t=some (.slice e))(hv:Value.okWide P W r b t v)(h:DataW.Trod enc P W 0 sp held t v d p):
  ∃a n c f,v=.slice a n c/\DataW.trod enc P W 0 sp held f t [.slice a n c]=some (d,p):=by
 obtain⟨a,n,c,rfl⟩:=okWide_slice ht hv
 obtain⟨f,h⟩:=h
 exact⟨a,n,c,f,rfl,h⟩
def af4{f:FuncId}{fn:Func}{s:ChangeSpec}{args:Array Value}{ds:List (DataW H)}{before:List MemPlace}
  (hs:s.vars=[]) (hr:fn.resultTypes= #[4]) (hfn:s.fn H (ds++[])={ results:=[.lit (.bool true)],args:=ds })
  (ht:(fn.params.toList.all λt=>Tryz.prog.readableRec t&&decide (t<Tryz.prog.types.size))=true)
  (hW:DataW.Whole enc Tryz.prog fn.params.toList s.vars false W args.toList ds [] before)
  (hw:Calls Tryz.prog f args W λe w'=>e=.returned (.bool true)/\Below W.heap.size W w'):
  Calls Tryz.prog f args W λe W'=>∃v,e=.returned v/\s.post enc Tryz.prog fn false true false false W args v W':=by
 refine hw.mono λe W' ⟨he,hB⟩=>?_
 subst he
 have hW':=hW
 obtain⟨p,q,hA,hV,rfl,hfz,hnd⟩:=hW
 refine⟨_,rfl,ds,[],p++q,[],p,[],hW',?_,?_,?_,hB.frame _,λh=>by cases h⟩
 .rw[hfn,hr]
  exact trodAll_mk1 (shut_bool Tryz.underlying4 _)
 .rw[hfn]
  exact Fq laidOut' hB ht hA (λx hx=>hW'.lt x (iz _ hx))
 .rw[hfn,hs]
  rfl
end
section
variable {H:Type} {enc:TypeId×Value→H} {W:World}
def aub{r:Reach}{b:Nat}{v:Value}{d:DataW H}{p:List MemPlace}{sp:Nat->Bool}{held:Bool}(hv:Value.okWide Tryz.prog W r b 5 v)(h:DataW.Trod enc Tryz.prog W 0 sp held 5 v d p):
  ∃n:Nat,v=.int .u8 (n:Int)/\n<=255:=by
 obtain⟨n,rfl,-,-,hw⟩:=open_int Tryz.underlying5 hv h
 have hw2:0<=n/\n<=255:=by simpa [Lit.wf,IntKind.min,IntKind.max,IntKind.signed,IntKind.bits]using hw
 exact⟨n.toNat,by rw[ff hw2.1],jb⟩
end
end Go.Proofs.Ins
