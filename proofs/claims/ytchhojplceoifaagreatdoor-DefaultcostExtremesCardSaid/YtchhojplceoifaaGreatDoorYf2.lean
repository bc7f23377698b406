import Derived.Test.YtchhojplceoifaaGreatDoorYf1
import Derived.Test.YtchhojplceoifaaGreatDoorProg
import Derived.Deep.QuietTactic
import Derived.Lib.Strings
import Derived.Lib.Hide
import Derived.Lib.Bytealg
import Derived.Test.YtchhojplceoifaaGreatDoorTie
import Derived.ProofKit
import Derived.OpenShut
import Derived.Deep.Slices
import Derived.Deep.Strs
import Derived.Lib.SmallJoins
import Derived.Carry
import Derived.LaidMore
import Derived.Stop.Joined
import Derived.Test.YtchhojplceoifaaGreatDoorCards
import Derived.Lay
import Derived.SevenTiedAt
set_option linter.all false
set_option maxRecDepth 100000
set_option maxHeartbeats 8000000
namespace Go.Proofs.Ins
open Go.RowKit
def xu:(Tryz.prog.info? 177).map (λi=>(i.zero,i.size,i.bytes))=some (some (.int .u32 0),1,4):=by kernel_rfl
def ahc:(Tryz.prog.info? 5).map (λi=>(i.zero,i.size,i.bytes))=some (some (.int .u8 0),1,1):=by kernel_rfl
def Ii(w:World)(x:Nat)(e:Ending)(w':World):Prop:=
 ∃a len cap,e=.returned (.slice a len cap)/\len<=cap/\cap<=9223372036854775807/\Limbs w' a len x/\Below w.heap.size w w'
def Sr(b off len cap:Nat)(xs:Nat->Nat)(n:Nat)(w:World)(hl:len<=4294967296)(hcap:len<=cap)
  (hc:∀j,j<len->w.cell? ⟨b,off+j,none⟩=some (.int .u32 (xs j)))
  (hn:n<=len) (hz:∀j,n<=j->j<len->xs j=0) (hnz:n=0\/xs (n-1)≠0):
  Calls Tryz.prog 166 #[.slice (some ⟨b,off,none⟩) len cap] w λe w'=>e=.returned (.slice (some ⟨b,off,none⟩) n cap)/\w=w':=by
 go_enter Tryz.func166,Tryz.ntmps166
 go_wp2
 go_loop [3] (λi=>∃k:Nat,i=.int .i64 k/\n<=k/\k<=len) (λi=>(intOf i).toNat)
 case atStart=>exact⟨len,rfl,hn,jb⟩
 case round=>
  obtain⟨k,rfl,h1,h2⟩:=hrel;by_cases hk:k=n
  .subst hk;by_cases h0:k=0
   .subst h0;go_wp2;go_ret;exact⟨rfl,rfl⟩
   .have h3:xs (k-1)≠0:=jb;have hcell:=hc (k-1) jb;clear hc hz;have hb:((xs (k-1):Int)==0)=false:=by simp;omega
    go_wp2;go_ret;exact⟨rfl,rfl⟩
  .have hcell:=hc (k-1) jb;have hz1:=hz (k-1) jb jb;clear hc hz;rw[hz1]at hcell;clear hz1;go_wp2;go_round
   case rel=>exact⟨k-1,by go_num,jb,jb⟩
   case measure=>simp[intOf];omega
def Dl(w0:World)(b len:Nat)(T:TypeId)(f:Nat->Nat)(w:World)(hl:len<=4294967296)(hr:Row w b T .u32 len f)(hf:∀j,j<len->f j<LB)(hbel:Below w0.heap.size w0 w):
  Calls Tryz.prog 166 #[.slice (some ⟨b,0,none⟩) len len] w (Ii w0 (lv f len)):=
 (Sr b 0 len len f (Gu f len) w hl jp hr.reads (y8 f len) (Jz f len) (NK f len)).mono (by rintro e w' ⟨rfl,rfl⟩;refine⟨_,_,_,rfl,y8 f len,jb,⟨f,acu f len,Xh hf,?_⟩,hbel⟩;exact .inr ⟨b,0,rfl,λj hj=>hr.reads j (aM hj (y8 f len))⟩)
def parse_any(s:ByteArray)(w:World)(hs:s.size<=1073741824):
  Calls Tryz.prog 117 #[.string s] w (Ii w (nv s)):=by
 obtain⟨n,hn1,hn2,hn⟩:∃n,s.size<=4*n/\4*n<=s.size+3/\Hid (n=(s.size+3)/4):=⟨_,jb,jb,rfl⟩
 go_enter Tryz.func117,Tryz.ntmps117
 go_wp2_with (refine iE _ _ 175 177 .u32 4 n _ rfl rfl Tryz.underlying175 xu rfl rfl (by have:=hn.out;omega) jb jb ?_;intro w1 hr1 hb1 hz1)
 go_loopw [13] (λi wr=>∃k:Nat,i=.int .i64 k/\k<=s.size/\Row wr w.heap.size 177 .u32 n (pw (byt s) k)/\Below w.heap.size w wr) (λi _=>s.size-(intOf i).toNat)
 case atStart=>exact⟨0,rfl,jb,hr1.congr (λj _=>(acv _ _).symm),hb1⟩
 case round=>
  obtain⟨k,rfl,hk,hrow,hbel⟩:=hrel;clear hr1 hb1 hz1;by_cases hlt:k<s.size
  .have hcell:=hrow.cell (j:=k/4) jb;have hfr:=hrow.frozen (k/4);go_wp2;have q2:((k:Int)/4).toNat=k/4:=jb;have q9:((s.size:Int)-1-k).toNat=s.size-1-k:=jb;refine wp_region_still_tail 19 (by kernel_rfl) (by kernel_rfl) ?_;simp only[fo,cI,List.drop_succ_cons,gp];repeat(refine wpStill_step (λK hK=>?_);go_simp;(try simp(disch:=omega) only[ar9]);(first|(refine hK _ ?_;clear hK K)|(simp(disch:=omega) only[ae,dif_pos,ab,dif_neg,ar9];go_simp;refine hK _ ?_;clear hK K)))
   refine wpStill_nil ?_;change wpList _ _ _ _ _ (World.drew _);go_wp2;go_round
   case rel=>
    refine⟨k+1,by go_num,jb,?_,(hbel.setCell jp _).drew⟩;have hb:=UA (s) k;have hx:=aqV (UA s) k;have hy:=apT (UA s) (k+1) (k/4);rw[UC,upd_same]at hy;rw[aqU s k jb];have e1:((byt s k:Int)%4294967296)=(byt s k:Int):=jb;have e2:(byt s k:Int)*2^(8*(k%4))%4294967296=(byt s k:Int)*2^(8*(k%4)):=by
     have:byt s k*2^(8*(k%4))<4294967296:=by unfold LB at hy;omega
     have h3:(byt s k:Int)*2^(8*(k%4))=((byt s k*2^(8*(k%4)):Nat):Int):=by push_cast;rfl
     rw[h3];omega
    rw[e1,e2,ag9 _ _ _ hx hy];exact(hrow.set (k/4) _).drew.congr λj _=>(UC _ _ _).symm
   case measure=>simp[intOf];omega
  .obtain rfl:k=s.size:=jb;go_wp2_with fail;refine(Dl w _ n 177 _ _ jb hrow (λj _=>apT (UA s) _ j) hbel).mono ?_;rintro e w' ⟨a,len,cap,rfl,h1,h2,h3,h4⟩;rw[avn _ hn1,ag4]at h3;go_wp2;go_ret;exact⟨a,len,cap,rfl,h1,h2,h3,h4⟩
def avp:Value->Nat|.string s=>s.size|_=>0
def al1(t:ByteArray)(h:0<t.size)(h0:t[0].toNat=0):nv (t.extract 1 t.size)=nv t/\(t.extract 1 t.size).size+1=t.size:=by
 have e:(t.extract 1 t.size).data.toList=t.data.toList.tail:=by rw[Lib.extract_data];simp;rw[eO];rw[List.length_tail];exact jp
 constructor
 .unfold nv;rw[e];have hs:t.data.toList.length=t.size:=rfl;cases hl:t.data.toList with
  |nil=>rw[hl]at hs;simp at hs;omega
  |cons x r=>
   have hx:t[0]=x:=by have:t[0]=t.data.toList[0]'(by rw[hs];exact h):=rfl;rw[this];simp[hl]
   rw[hx]at h0
   rw[List.tail_cons,y9,h0];simp
 .have h2:(t.extract 1 t.size).data.toList.length=t.data.toList.tail.length:=by rw[e]
  have h3:t.data.toList.length=t.size:=rfl;have h4:(t.extract 1 t.size).data.toList.length=(t.extract 1 t.size).size:=rfl;rw[List.length_tail]at h2;omega
def al2{t:ByteArray}(h:0<t.size)(h0:t[0].toNat≠0):bn (nv t)=t:=by
 apply Si;have hs:t.data.toList.length=t.size:=rfl;cases hl:t.data.toList with
 |nil=>simp
 |cons x r=>
  have hx:t[0]=x:=by have:t[0]=t.data.toList[0]'(by rw[hs];exact h):=rfl;rw[this];simp[hl]
  rw[hx]at h0
  simp only[List.head?_cons,ne_eq,bh]
  intro e;apply h0;rw[e];rfl
def Ij{t:ByteArray}(h:t.size=0):bn (nv t)=t:=by apply Si;have hs:t.data.toList.length=t.size:=rfl;have:t.data.toList=[]:=gH.mp jb;rw[this];simp
def Ik(s:ByteArray)(w:World)(hs:s.size<=9223372036854775807):
  Calls Tryz.prog 200 #[.string s,.int .u8 0] w λe w'=>e=.returned (.string (bn (nv s)))/\w=w':=by
 go_enter Tryz.func200,Tryz.ntmps200
 go_wp2
 go_loop [0] (λv=>∃t:ByteArray,v=.string t/\t.size<=s.size/\nv t=nv s) (λv=>avp v)
 case atStart=>exact⟨s,rfl,jp,rfl⟩
 case round=>
  obtain⟨t,rfl,h1,h2⟩:=hrel;by_cases h0:t.size=0
  .go_wp2;go_ret;exact⟨EI (by rw[<-h2,Ij h0]),rfl⟩
  .have h3:0<t.size:=jb;have HT:=al1 t h3;have HB:=al2 h3;have HH:=And.intro HT HB;have H:Hid _:=HH;clear HT HB HH;go_wp2
   .have hc:(t[0].toNat:Int)==0:=by assumption
    have hc':t[0].toNat=0:=by simpa using hc
    obtain⟨e1,e2⟩:=H.out.1 hc';go_round
    case rel=>exact⟨_,rfl,jb,e1.trans h2⟩
    case measure=>simp[avp];omega
   .have hc:((t[0].toNat:Int)==0)=false:=by assumption
    have hc':t[0].toNat≠0:=by simpa using hc
    go_ret;exact⟨EI (by rw[<-h2,H.out.2 hc']),rfl⟩
def Ll{s:ByteArray}(h:s.size=0):s=⟨#[]⟩:=by obtain⟨⟨l⟩⟩:=s;have:l=[]:=gH.mp h;rw[this]
def QZ{s:ByteArray}(h:¬s.size=0):s.toList.isEmpty=false/\¬s.toList=[]:=by
 obtain⟨⟨l⟩⟩:=s;rw[ByteArray.toList_eq];cases l with
 |nil=>exact absurd rfl h
 |cons _ _=>exact⟨rfl,by simp⟩
def Q5(s:ByteArray)(w:World)(hs:s.size<=9223372036854775807):
  Calls Tryz.prog 164 #[.string s,.string ⟨#[0]⟩] w λe w'=>e=.returned (.string (bn (nv s)))/\w=w':=by
 by_cases h0:s.size=0
 .have hx:=Ij h0
  obtain rfl:=Ll h0
  have H:=jx hx
  clear h0 hs hx
  go_enter Tryz.func164,Tryz.ntmps164
  go_wp2
  go_ret
  exact⟨EI H.out.symm,rfl⟩
 .obtain⟨hd1,hd2⟩:=QZ h0
  have hlit:(({data:=#[0]}:ByteArray)[0].toNat:Int)=0:=rfl
  go_enter Tryz.func164,Tryz.ntmps164
  go_wp2_with (go_at_call 200;refine(Ik s _ hs).mono ?_;rintro e w' ⟨rfl,rfl⟩)
  go_ways
  go_ret
  exact⟨rfl,rfl⟩
def ql(s:ByteArray)(w:World)(hs:s.size<=9223372036854775807):
  Calls Tryz.prog 114 #[.string s] w λe w'=>e=.returned (.string (bn (nv s)))/\w=w':=by
 go_enter Tryz.func114,Tryz.ntmps114
 go_wp2_with (go_at_call 164;refine(Q5 s _ hs).mono ?_;rintro e w' ⟨rfl,rfl⟩)
 go_ret
 exact⟨rfl,rfl⟩
def aaq(g:Nat->Nat)(n:Nat):ByteArray:=⟨((List.range n).map λj=>UInt8.ofNat (g j)).toArray⟩
def EJ(g:Nat->Nat)(n:Nat):(aaq g n).size=n:=by show((List.range n).map λj=>UInt8.ofNat (g j)).toArray.size=n;simp
def al3(g:Nat->Nat)(n:Nat)(hg:∀j,j<n->g j<256):nv (aaq g n)=bl (λk=>g (n-1-k)) n:=by rw[<-ag4,EJ];apply NR;intro k hk;unfold byt;rw[EJ];have:(aaq g n).data.toList=(List.range n).map λj=>UInt8.ofNat (g j):=rfl;rw[this,cG,List.getElem?_map,List.getElem?_range jb];have:=hg (n-1-k) jb;simp;omega
def Row.str{P:Program}{w:World}{b n:Nat}{T src dst e:TypeId}{g:Nat->Nat}(h:Row w b T .u8 n g)(cap:Nat)
  (hs:P.underlying src=some (.slice e)) (he:P.underlying e=some (.int .u8)) (hd:P.underlying dst=some .string):
  (convert src dst (.slice (some ⟨b,0,none⟩) n cap)).run P w=.ok (.string (aaq g n)) w:=by
 have:=run_convert_bytes_arg (P:=P) w src e hs he b 0 n cap ((List.range n).map λj=>(g j:Int)) kc (λi hi=>by rw[cL,h.cell hi,cG,List.getElem?_map,List.getElem?_range hi];rfl) dst hd
 rw[this]
 congr 2
 unfold strOfNums aaq
 rw[List.map_map]
 congr 2
def Aw(b off len cap:Nat)(f:Nat->Nat)(w:World)(hl:len<=1073741824)(hcap:len<=cap)
  (hc:Reads w b off .u32 len f) (hf:∀j,j<len->f j<LB):
  Calls Tryz.prog 118 #[.slice (some ⟨b,off,none⟩) len cap] w λe w'=>e=.returned (.string (bn (lv f len)))/\Below w.heap.size w w':=by
 obtain⟨n,hn⟩:∃n,n=4*len:=⟨_,rfl⟩
 have hn1:n<=4*len:=jb
 have hn2:4*len<=n:=jb
 have hnn:=jx hn
 clear hn
 go_enter Tryz.func118,Tryz.ntmps118
 go_wp2_with (refine iE _ _ 62 5 .u8 1 n _ rfl rfl Tryz.underlying62 ahc rfl rfl jb jb jb ?_;intro w1 hr1 hb1 hz1)
 go_loopw [11] (λi wr=>∃k:Nat,i=.int .i64 k/\k<=n/\Row wr w.heap.size 5 .u8 n (λj=>if n<=j+k then lby f (n-1-j)else 0)/\Below w.heap.size w wr) (λi _=>n-(intOf i).toNat)
 case atStart=>exact⟨0,rfl,jb,hr1.congr (λj hj=>by rw[ab jb]),hb1⟩
 case round=>
  obtain⟨k,rfl,hk,hrow,hbel⟩:=hrel;clear hr1 hb1 hz1;by_cases hlt:k<n
  .have hbw:b<w.heap.size:=hc.lt jb;have hcell:=(hc.below hbel hbw) (k/4) jb;have hfr:=hrow.frozen (n-1-k);have hold:=hrow.cell (j:=n-1-k) jb;rw[ab jb]at hold;clear hc;go_wp2;go_round
   case rel=>
    refine⟨k+1,by go_num,jb,?_,(hbel.setCell jp _)⟩;have e1:((f (k/4):Int)/2^(8*(k%4))%256)=((lby f k:Nat):Int):=by unfold lby;push_cast;rfl
    rw[e1];refine(hrow.set (n-1-k) _).congr λj hj=>?_;by_cases hj2:j=n-1-k
    .subst hj2;rw[upd_same,ae jb];congr 1;omega
    .rw[dh _ _ _ hj2];by_cases h3:n<=j+k
     .rw[ae h3,ae jb]
     .rw[ab h3,ab jb]
   case measure=>simp[intOf];omega
  .obtain rfl:k=n:=jb;have hcv:=hrow.str (P:=Tryz.prog) (src:=62) (dst:=9) k Tryz.underlying62 Tryz.underlying5 Tryz.underlying9;have hsz:=EJ (λj=>if k<=j+k then lby f (k-1-j)else 0) k;have hnv:nv (aaq (λj=>if k<=j+k then lby f (k-1-j)else 0) k)=lv f len:=by rw[al3 _ _ (λj _=>by split;exact di _ jb;omega)];rw[<-aqY hf,<-hnn.out];apply NR;intro j hj;rw[ae jb];congr 1;omega
   generalize aaq (λj=>if k<=j+k then lby f (k-1-j)else 0) k=t at*;have H:=jx hnv;have H2:t.size<=9223372036854775807:=jb;clear hnv hrow hc hsz hcap;go_wp2_with (go_at_call 114;refine(ql _ _ jb).mono ?_;rintro e w' ⟨rfl,rfl⟩)
   go_ret;exact⟨EI (by rw[H.out]),hbel⟩
def rU(x y:Nat):Int:=if x<y then-1 else if y<x then 1 else 0
def zk{x y:Nat}(h:x<y):rU x y=-1:=by unfold rU;rw[ae h]
def EL{x y:Nat}(h:y<x):rU x y=1:=by unfold rU;rw[ab jb,ae h]
def UH(x:Nat):rU x x=0:=by unfold rU;rw[ab jb,ab jb]
def Lm:∀(l r:List UInt8),l.length=r.length->Lib.compareBytes l r=rU (bv l) (bv r):=by
 intro l;induction l with
 |nil=>intro r h;cases r with
  |nil=>rfl
  |cons _ _=>simp at h
 |cons a l ih=>
  intro r h
  cases r with
  |nil=>simp at h
  |cons b r=>
   have hl:l.length=r.length:=by simpa using h
   unfold Lib.compareBytes
   have h1:=KN l
   have h2:=KN r
   rw[y9,y9,hl]
   rw[hl]at h1
   by_cases c1:a<b
   .rw[ae c1]
    have:a.toNat<b.toNat:=c1
    have:a.toNat*256^r.length+256^r.length<=b.toNat*256^r.length:=by rw[<-cj];exact bp _ this
    rw[zk jb]
   .rw[ab c1]
    by_cases c2:b<a
    .rw[ae c2]
     have:b.toNat<a.toNat:=c2
     have:b.toNat*256^r.length+256^r.length<=a.toNat*256^r.length:=by rw[<-cj];exact bp _ this
     rw[EL jb]
    .rw[ab c2,ih r hl]
     have e:a.toNat=b.toNat:=by have c1':¬a.toNat<b.toNat:=c1;have c2':¬b.toNat<a.toNat:=c2;omega
     rw[e];unfold rU
     congr 1
     .simp
     .congr 1;simp
def SA(a:Option Addr)(cap:Nat)(w:World):
  Calls Tryz.prog 118 #[.slice a 0 cap] w λe w'=>e=.returned (.string (bn 0))/\Below w.heap.size w w':=by
 go_enter Tryz.func118,Tryz.ntmps118
 go_wp2_with (refine iE _ _ 62 5 .u8 1 0 _ rfl rfl Tryz.underlying62 ahc rfl rfl jb jb jb ?_;intro w1 hr1 hb1 hz1)
 go_loopw [11] (λi wr=>i=.int .i64 0/\wr=w1) (λi _=>0)
 case atStart=>exact⟨rfl,rfl⟩
 case round=>
  obtain⟨rfl,rfl⟩:=hrel;have hcv:=hr1.str (P:=Tryz.prog) (src:=62) (dst:=9) 0 Tryz.underlying62 Tryz.underlying5 Tryz.underlying9;clear hr1 hz1;go_wp2_with (go_at_call 114;refine(ql _ _ ?_).mono ?_;(rw[EJ];omega);rintro e w' ⟨rfl,rfl⟩)
  go_ret;exact⟨rfl,hb1⟩
def Il(a:Option Addr)(len cap x:Nat)(w:World)(h:Limbs w a len x)(hl:len<=1073741824)(hcap:len<=cap):
  Calls Tryz.prog 118 #[.slice a len cap] w λe w'=>e=.returned (.string (bn x))/\Below w.heap.size w w':=by
 obtain⟨f,rfl,h2,h3⟩:=h
 rcases h3 with rfl|⟨b,off,rfl,hr⟩
 .exact SA a cap w
 .exact Aw b off len cap f w hl hcap hr h2.1
def aar(n:Int):Int:=if n<0 then-1 else if 0<n then 1 else 0
def UJ{n:Int}(h:n<0):aar n=-1:=by unfold aar;rw[ae h]
def UK{n:Int}(h:0<n):aar n=1:=by unfold aar;rw[ab jb,ae h]
def Xl(n:Int)(w:World):Calls Tryz.prog 115 #[.int .i64 n] w λe w'=>e=.returned (.int .i64 (aar n))/\w=w':=by
 rcases(show n<0\/0<n\/n=0 by omega)with h1|h1|rfl
 .have h2:decide (n<0)=true:=by simpa using h1
  go_enter Tryz.func115,Tryz.ntmps115;go_wp2;go_ret;exact⟨wY (UJ h1).symm,rfl⟩
 .go_enter Tryz.func115,Tryz.ntmps115;go_wp2;go_ret;exact⟨wY (UK h1).symm,rfl⟩
 .go_enter Tryz.func115,Tryz.ntmps115;go_wp2;go_ret;exact⟨rfl,rfl⟩
def ahe(a b:ByteArray)(w:World):Sem.run Tryz.prog (callFunc 204 #[Value.string a,Value.string b]) w=Sem.run Tryz.prog (do let v<-(Extern.BytealgCompare.compare #[.string a,.string b]);pure (Next.value v)) w:=by kernel_rfl
def al4(a b:ByteArray)(w:World):Sem.run Tryz.prog (callFunc 204 #[Value.string a,Value.string b]) w=.ok (Next.value (.int .i64 (Lib.compareBytes a.data.toList b.data.toList))) w:=by rw[ahe,Sem.run_bind,Lib.run_compareString];rfl
def aas(a b:ByteArray)(w:World):Calls Tryz.prog 165 #[.string a,.string b] w λe w'=>e=.returned (.int .i64 (Lib.compareBytes a.data.toList b.data.toList))/\w=w':=by have hx:=λw=>al4 a b w;go_enter Tryz.func165,Tryz.ntmps165;go_wp2;go_ret;exact⟨rfl,rfl⟩
def aat(a b:ByteArray)(w:World):Calls Tryz.prog 116 #[.string a,.string b] w λe w'=>e=.returned (.int .i64 (Lib.compareBytes a.data.toList b.data.toList))/\w=w':=by
 go_enter Tryz.func116,Tryz.ntmps116;go_wp2_with (go_at_call 165;refine(aas _ _ _).mono ?_;rintro e w' ⟨rfl,rfl⟩)
 go_ret;exact⟨rfl,rfl⟩
def SB{x y:Nat}(h:(bn x).size<(bn y).size):x<y:=by have h1:(NM x).length<(NM y).length:=h;have h2:=KN (NM x);have h3:256^((NM y).length-1)<=bv (NM y):=Xi (NP y) (by intro e;rw[e]at h1;simp at h1);rw[Uz]at h2 h3;have:256^(NM x).length<=256^((NM y).length-1):=bB jb jb;omega
def BH(s:ByteArray):(bn (nv s)).size<=s.size:=ou (NQ s)
def UL(a b:ByteArray)(w:World)(ha:a.size<=1073741824)(hb:b.size<=1073741824):
  Calls Tryz.prog 61 #[.string a,.string b] w λe w'=>e=.returned (.int .i64 (rU (nv a) (nv b)))/\w=w':=by
 have ha2:=BH a
 have hb2:=BH b
 obtain⟨x,hx⟩:∃x,x=bn (nv a):=⟨_,rfl⟩
 obtain⟨y,hy⟩:∃y,y=bn (nv b):=⟨_,rfl⟩
 have n1:Calls Tryz.prog 114 #[.string a] w λe w'=>e=.returned (.string x)/\w=w':=by rw[hx];exact ql a w jb
 have n2:Calls Tryz.prog 114 #[.string b] w λe w'=>e=.returned (.string y)/\w=w':=by rw[hy];exact ql b w jb
 rw[<-hx]at ha2
 rw[<-hy]at hb2
 have Hx:=jx hx
 have Hy:=jx hy
 have N1:=jx n1
 have N2:=jx n2
 clear hx hy n1 n2
 by_cases hlen:x.size=y.size
 .have hcmp:Lib.compareBytes x.data.toList y.data.toList=rU (nv a) (nv b):=by
   rw[Lm _ _ hlen];have e1:bv x.data.toList=nv a:=by rw[Hx.out];exact iy _
   have e2:bv y.data.toList=nv b:=by rw[Hy.out];exact iy _
   rw[e1,e2]
  have HC:=jx hcmp
  have HL:((x.size:Int)==(y.size:Int))=true:=by simp;omega
  have HL2:((x.size:Int) !=(y.size:Int))=false:=by simp;omega
  clear hcmp hlen
  go_enter Tryz.func61,Tryz.ntmps61
  go_wp2_with fail
  refine N1.out.mono ?_;rintro e w' ⟨rfl,rfl⟩
  go_wp2_with fail
  refine N2.out.mono ?_;rintro e w' ⟨rfl,rfl⟩
  go_wp2_with fail
  refine(aat _ _ _).mono ?_;rintro e w' ⟨rfl,rfl⟩
  go_wp2
  go_ret
  exact⟨wY HC.out,rfl⟩
 .have HL2:((x.size:Int) !=(y.size:Int))=true:=by simp;omega
  have hcmp:aar ((x.size:Int)-y.size)=rU (nv a) (nv b):=by
   rcases(show x.size<y.size\/y.size<x.size by omega)with h|h
   .rw[UJ jb];rw[Hx.out,Hy.out]at h;rw[zk (SB h)]
   .rw[UK jb];rw[Hx.out,Hy.out]at h;rw[EL (SB h)]
  have HC:=jx hcmp
  clear hcmp hlen
  go_enter Tryz.func61,Tryz.ntmps61
  go_wp2_with fail
  refine N1.out.mono ?_;rintro e w' ⟨rfl,rfl⟩
  go_wp2_with fail
  refine N2.out.mono ?_;rintro e w' ⟨rfl,rfl⟩
  go_wp2_with fail
  refine(Xl _ _).mono ?_;rintro e w' ⟨rfl,rfl⟩
  go_wp2
  go_ret
  exact⟨wY HC.out,rfl⟩
end Go.Proofs.Ins
namespace Go.Proofs.Ins
theorem qp(q:Rat):(sg q=-1/\q<0)\/(sg q=0/\q=0)\/(sg q=1/\0<q):=by
 unfold sg;by_cases h:q=0
 .rw[ae h];exact .inr (.inl ⟨rfl,h⟩)
 .rw[ab h];by_cases h2:q<0
  .rw[ae h2];exact .inl ⟨rfl,h2⟩
  .rw[ab h2];exact .inr (.inr ⟨rfl,by grind⟩)
def aau{p q:Rat}(h:sg p<sg q):pI p q=-1:=by apply Ig;rcases qp p with⟨e1,h1⟩|⟨e1,h1⟩|⟨e1,h1⟩<;>rcases qp q with⟨e2,h2⟩|⟨e2,h2⟩|⟨e2,h2⟩<;>first|omega|grind
def aav{p q:Rat}(h:sg q<sg p):pI p q=1:=by apply Ih;rcases qp p with⟨e1,h1⟩|⟨e1,h1⟩|⟨e1,h1⟩<;>rcases qp q with⟨e2,h2⟩|⟨e2,h2⟩|⟨e2,h2⟩<;>first|omega|grind
def ahf{p q:Rat}(h:sg p=sg q):rn p=rn q:=by
 rcases qp p with⟨e1,h1⟩|⟨e1,h1⟩|⟨e1,h1⟩<;>rcases qp q with⟨e2,h2⟩|⟨e2,h2⟩|⟨e2,h2⟩<;>first
  |omega
  |rw[UG.mpr h1,UG.mpr h2]
  |rw[N7.mpr kd,N7.mpr kd]
def aeB{p q:Rat}(h:sg p=sg q):pI p q=if rn p=true then-(rU (nm p*q.den) (nm q*p.den))else rU (nm p*q.den) (nm q*p.den):=by
 have hn:=ahf h;have e1:=NZ p;have e2:=NZ q;have h1:=Rat.lt_iff p q;have h2:=Rat.lt_iff q p;rw[<-e1,<-e2,<-hn]at h1 h2;obtain⟨X,hX⟩:∃X,X=nm p*q.den:=⟨_,rfl⟩
 obtain⟨Y,hY⟩:∃Y,Y=nm q*p.den:=⟨_,rfl⟩
 have c1:(nm p:Int)*q.den=(X:Int):=by rw[hX,eC]
 have c2:(nm q:Int)*p.den=(Y:Int):=by rw[hY,eC]
 rw[<-hX,<-hY];have heq:X=Y->p=q:=λe=>by
  rw[Rat.eq_iff_mul_eq_mul,<-e1,<-e2,<-hn];unfold wZ;split
  .rw[Int.neg_mul,Int.neg_mul,c1,c2,e]
  .rw[c1,c2,e]
 cases hr:rn p
 .rw[hr]at h1 h2;simp only[wZ,de,if_false]at h1 h2⊢;rw[c1,c2]at h1 h2;rcases Nat.lt_trichotomy X Y with h3|h3|h3
  .rw[zk h3,Ig (h1.mpr jb)]
  .rw[heq h3,Mc,h3,UH]
  .rw[EL h3,Ih (h2.mpr jb)]
 .rw[hr]at h1 h2;simp only[wZ,if_true,Int.neg_mul]at h1 h2⊢;rw[c1,c2]at h1 h2;rcases Nat.lt_trichotomy X Y with h3|h3|h3
  .rw[zk h3,Ih (h2.mpr jb)];rfl
  .rw[heq h3,Mc,h3,UH];rfl
  .rw[EL h3,Ig (h1.mpr jb)]
end Go.Proofs.Ins
namespace Go.Proofs.Ins
open Go.RowKit
structure R3 where
 n:Bool
 s:ByteArray
 d:ByteArray
instance:Inhabited R3:=⟨⟨false,⟨#[]⟩,⟨#[]⟩⟩⟩
def R3.c(r:R3):List Value:=[.bool r.n,.string r.s,.string r.d]
def R3.q(r:R3):Rat:=rq r.n r.s r.d
def R3.small(r:R3):Prop:=r.s.size<=24/\r.d.size<=24
instance (r:R3):Decidable r.small:=by unfold R3.small;infer_instance
def R3.fits(r:R3)(k:Nat):Prop:=r.s.size<=k/\r.d.size<=k
def mP(q:Rat):R3:=⟨rn q,rs q,rd q⟩
theorem og(q:Rat):(mP q).q=q:=FZ q
def xX{q:Rat}{k:Nat}(h:Sm k q):(mP q).fits k:=⟨h.rs,h.rd⟩
structure V8 where
 p:Int
 a:R3
 k:R3
 x:Bool
instance:Inhabited V8:=⟨⟨0,default,default,false⟩⟩
def V8.c(v:V8):List Value:=[.int .i64 v.p,.bool v.a.n,.string v.a.s,.string v.a.d,.bool v.k.n,.string v.k.s,.string v.k.d,.bool v.x]
def ay3(w:World)(T:TypeId)(n sz:Nat)(F:Nat->List Value)(e:Ending)(w':World):Prop:=
 ∃v,e=.returned v/\mW w' w.heap.size T sz v n F/\Below w.heap.size w w'
def c16(L:Nat->Nat)(i:Nat):List Value:=[.int .u16 (L i:Int)]
def al5:(Tryz.prog.info? 3).map (λi=>(i.zero.map (λz=>z.cells.size),i.size,i.bytes))=some (some 1,1,8):=by kernel_rfl
end Go.Proofs.Ins
namespace Go.Proofs.Ins
open Go Go.RowKit Go.ChangeShapes Go.WideShapes Go.Deep
section
variable {H:Type} {enc:TypeId×Value→H} {P:Program} {W:World} {sp:Nat→Bool} {held:Bool}
def Light(P:Program)(t:TypeId)(d:DataW H):Prop:=∀n∈d.weights P t,n<=140737488351232
def Az{ts:List TypeId}{ds:List (DataW H)}(h:(DataW.weightsEach P ts ds).all (·<=reachBytes)=true){j:Nat}{t:TypeId}{d:DataW H}(ht:ts[j]?=some t)(hd:ds[j]?=some d):Light P t d:=λn hn=>by have:=eJ.1 h _ (DataW.weights_mem_each ht hd n hn);exact cQ this
def CJ{e:TypeId}:∀{l:List (DataW H)}{d:DataW H},d∈l->∀n∈d.weights P e,n∈DataW.weightsAll P e l
 |d'::r,d,hd,n,hn=>by
  simp only[DataW.weightsAll,ce];rcases bA.1 hd with rfl|h
  .exact Or.inl hn
  .exact Or.inr (CJ h n hn)
def aaw{t e:TypeId}{l sp:List (DataW H)}{d:DataW H}(ht:P.underlying t=some (.slice e))(h:Light P t (.slice l sp))(hd:d∈l):Light P e d:=λn hn=>h n (by simp only[DataW.weights,ht,bA,ce];exact .inr (.inl (CJ hd n hn)))
def aeC{t e:TypeId}{l sp:List (DataW H)}(ht:P.underlying t=some (.slice e))(h:Light P t (.slice l sp))(he:0<P.bytesOf e):l.length<=140737488351232:=by have:=h ((l.length+sp.length)*P.bytesOf e) (by simp[DataW.weights,ht]);have h2:=fW (l.length+sp.length) he;omega
def JA{t e:TypeId}{fuel k:Nat}{cs:List Value}{x:DataW H×List MemPlace}(ht:P.underlying t=some (.slice e))(hk:P.cellsOf e=k)(hk0:0<k)(he:0<P.bytesOf e)(h:DataW.trod enc P W 0 sp held fuel t cs=some x)(hL:Light P t x.1):
  ∃(a:Option Addr) (len cap:Nat) (C:Nat->List Value),cs=[.slice a len cap]/\len<=140737488351232/\aez W a len k C/\∀i,i<len->(C i).length=k/\∃n y,DataW.trod enc P W 0 sp held n e (C i)=some y/\Light P e y.1:=by
 rcases open_slice ht h with⟨rfl,-⟩|⟨a,len,cap,m,n,D,Pl,rfl,-,hl,hm,hmm,rfl,hx⟩
 .exact⟨none,0,0,λ_=>[],rfl,jb,.inl rfl,λi hi=>jb⟩
 .have hlm:len<=m:=by rw[hmm];split<;>omega
  obtain⟨C,hC⟩:=choose_lt (α:=List Value) (p:=λi c=>W.cells? 0 (a.add (i*P.cellsOf e)) (P.cellsOf e)=some c/\DataW.trod enc P W 0 sp held n e c=some (D i,Pl i)) (λi hi=>hx i hi)
  have hlen:=aeC ht hL he
  rw[cA,ie]at hlen
  refine⟨some a,len,cap,C,rfl,hlen,?_,λi hi=>⟨?_,n,_,(hC i jb).2,aaw ht hL (cW.2 ⟨i,by simpa using hi,rfl⟩)⟩⟩
  .rcases eE len with h0|h0
   .exact .inl h0
   .obtain⟨b,off,spot⟩:=a
    obtain⟨_,hlen,hget⟩:=World.cells?_some (hC 0 jb).1
    have h00:=hget 0 jb
    rw[fw jb]at h00
    have hspot:spot=none:=by simpa [Addr.add]using World.cell?_spot h00
    subst hspot
    have hadd:∀i j,((⟨b,off,none⟩:Addr).add (i*k)).add j=⟨b,off+i*k+j,none⟩:=λi j=>by unfold Addr.add;by_cases h1:i*k=0<;>by_cases h2:j=0<;>simp[h1,h2]
    refine .inr ⟨b,off,rfl,?_,λi j hi hj=>?_⟩
    .have:=block_lt_of_cell h00
     simpa [Addr.add]using this
    .obtain⟨_,_,hg⟩:=World.cells?_some (hC i jb).1
     have:=hg j jb
     rw[hk,hadd]at this
     exact this
  .obtain⟨_,hlen,_⟩:=World.cells?_some (hC i jb).1
   rw[hlen,hk]
end
section
variable {H:Type} {enc:TypeId×Value→H} {W:World} {sp:Nat→Bool} {held:Bool}
def qV{fuel:Nat}{cs:List Value}{x:DataW H×List MemPlace}(h:DataW.trod enc Tryz.prog W 0 sp held fuel 55 cs=some x):∃m:Nat,cs=[.int .u16 (m:Int)]/\m<=65535:=by
 obtain⟨n,rfl,-,hw⟩:=DataW.trod_int Tryz.underlying55 h;have hw2:0<=n/\n<=65535:=by simpa [Lit.wf,IntKind.min,IntKind.max,IntKind.signed,IntKind.bits]using hw
 exact⟨n.toNat,by rw[eQ hw2.1],jb⟩
end
def aez.congr{w:World}{a:Option Addr}{n sz:Nat}{F G:Nat->List Value}(h:aez w a n sz F)(hg:∀i,i<n->F i=G i):aez w a n sz G:=by
 rcases h with h|⟨b,off,ha,hl,hr⟩
 .exact .inl h
 .exact .inr ⟨b,off,ha,hl,λi j hi hj=>by rw[<-hg i hi];exact hr i j hi hj⟩
section
variable {H:Type} {enc:TypeId×Value→H} {W:World} {sp:Nat→Bool} {held:Bool}
def ahg{fuel:Nat}{cs:List Value}{x:DataW H×List MemPlace}(h:DataW.trod enc Tryz.prog W 0 sp held fuel 22 cs=some x)(hL:Light Tryz.prog 22 x.1):
  ∃a n cap,∃M:Nat->Nat,cs=[.slice a n cap]/\n<=140737488351232/\aez W a n 1 (c16 M)/\∀i,i<n->M i<=65535:=by
 obtain⟨a,n,cap,C,rfl,hn,hs,hx⟩:=JA (k:=1) Tryz.underlying22 (by kernel_rfl) jb (cQ (by kernel_rfl)) h hL
 obtain⟨M,hM⟩:=choose_lt (α:=Nat) (p:=λi m=>C i=[.int .u16 (m:Int)]/\m<=65535) (λi hi=>by obtain⟨_,n,y,h1,h2⟩:=hx i hi;exact qV h1)
 exact⟨a,n,cap,M,rfl,hn,hs.congr λi hi=>(hM i hi).1,λi hi=>(hM i hi).2⟩
def F6{P:Program}(hl:laidOutB P=true){W W':World}(hb:Below W.heap.size W W'):∀{ts:List TypeId}{vs:List Value}{ds:List (DataW H)}{p:List MemPlace},
  (ts.all λt=>P.readableRec t&&decide (t<P.types.size))=true->DataW.TrodAll enc P W 0 (λ_=>true) true ts vs ds p->(∀x∈p,x.block<W.heap.size)->DataW.TrodAll enc P W' 0 (λb=>decide (b<W.heap.size)) true ts vs ds p
 |[],_,_,_,_,h,_=>by obtain⟨rfl,rfl,rfl⟩:=trodAll_nil h;exact h
 |t::ts,_,_,_,ht,h,hp=>by obtain⟨v,vs1,d,ds1,a,b,rfl,rfl,rfl,h1,h2⟩:=trodAll_cons h;simp only[cD,af,fi]at ht;exact⟨a,b,Below.trod hl ht.1.1 ht.1.2 h1 hb (λx hx=>hp x (it _ hx)),F6 hl hb ht.2 h2 (λx hx=>hp x (List.mem_append_right _ hx)),rfl⟩
end
def laidOut':laidOutB Tryz.prog=true:=by kernel_rfl
end Go.Proofs.Ins
namespace Go.Proofs.Ins
open Go Go.RowKit Go.ChangeShapes Go.WideShapes Go.ChangeAt Go.Proofs.YtchhojplceoifaaGreatDoor
def own':ownKnob Tryz.prog.godebug=none:=by kernel_rfl
def acD:List (String×DataW Unit):=[("unicode/utf8.acceptRanges",Rows.laid_unicode_utf8_acceptRanges),("unicode/utf8.first",Rows.laid_unicode_utf8_first)]
section
variable {H:Type} {enc:TypeId×Value→H} {W:World}
def AA{P:Program}{r:Reach}{b:Nat}{t e:TypeId}{v:Value}{d:DataW H}{p:List MemPlace}{sp:Nat->Bool}{held:Bool}(ht:P.underlying t=some (.slice e))(hv:Value.okWide P W r b t v)(h:DataW.Trod enc P W 0 sp held t v d p):
  ∃a n c f,v=.slice a n c/\DataW.trod enc P W 0 sp held f t [.slice a n c]=some (d,p):=by
 obtain⟨a,n,c,rfl⟩:=okWide_slice ht hv
 obtain⟨f,h⟩:=h
 exact⟨a,n,c,f,rfl,h⟩
def ahh{f:FuncId}{fn:Func}{s:ChangeSpec}{args:Array Value}{ds:List (DataW H)}{before:List MemPlace}
  (hs:s.vars=[]) (hr:fn.resultTypes= #[4]) (hfn:s.fn H (ds++[])={ results:=[.lit (.bool true)],args:=ds })
  (ht:(fn.params.toList.all λt=>Tryz.prog.readableRec t&&decide (t<Tryz.prog.types.size))=true)
  (hW:DataW.Whole enc Tryz.prog fn.params.toList s.vars false W args.toList ds [] before)
  (hw:Calls Tryz.prog f args W λe w'=>e=.returned (.bool true)/\Below W.heap.size W w'):
  Calls Tryz.prog f args W λe W'=>∃v,e=.returned v/\s.post enc Tryz.prog fn false true false false W args v W':=by
 refine hw.mono λe W' ⟨he,hB⟩=>?_
 subst he
 have hW':=hW
 obtain⟨p,q,hA,hV,rfl,hfz,hnd⟩:=hW
 refine⟨_,rfl,ds,[],p++q,[],p,[],hW',?_,?_,?_,hB.frame _,λh=>by cases h⟩
 .rw[hfn,hr]
  exact trodAll_mk1 (shut_bool Tryz.underlying4 _)
 .rw[hfn]
  exact F6 laidOut' hB ht hA (λx hx=>hW'.lt x (it _ hx))
 .rw[hfn,hs]
  rfl
end
section
variable {H:Type} {enc:TypeId×Value→H} {W:World}
def ay4{r:Reach}{b:Nat}{v:Value}{d:DataW H}{p:List MemPlace}{sp:Nat->Bool}{held:Bool}(hv:Value.okWide Tryz.prog W r b 5 v)(h:DataW.Trod enc Tryz.prog W 0 sp held 5 v d p):
  ∃n:Nat,v=.int .u8 (n:Int)/\n<=255:=by
 obtain⟨n,rfl,-,-,hw⟩:=open_int Tryz.underlying5 hv h
 have hw2:0<=n/\n<=255:=by simpa [Lit.wf,IntKind.min,IntKind.max,IntKind.signed,IntKind.bits]using hw
 exact⟨n.toNat,by rw[eQ hw2.1],jb⟩
def avq{r:Reach}{b:Nat}{v:Value}{d:DataW H}{p:List MemPlace}{sp:Nat->Bool}{held:Bool}(hv:Value.okWide Tryz.prog W r b 55 v)(h:DataW.Trod enc Tryz.prog W 0 sp held 55 v d p):
  ∃n:Nat,v=.int .u16 (n:Int)/\n<=65535:=by
 obtain⟨n,rfl,-,-,hw⟩:=open_int Tryz.underlying55 hv h
 have hw2:0<=n/\n<=65535:=by simpa [Lit.wf,IntKind.min,IntKind.max,IntKind.signed,IntKind.bits]using hw
 exact⟨n.toNat,by rw[eQ hw2.1],jb⟩
end
end Go.Proofs.Ins
