/- Part 22. No condition. -/
import Derived.Laws.BytesString
import Derived.Laws.Cells
import Derived.Laws.Strings
import Derived.Test.YtcikkglcoeedlaaGreatDm18
import Derived.Test.YtcikkglcoeedlaaGreatDm19
set_option linter.all false
set_option maxRecDepth 100000
namespace Go.Proofs.YtcikkglcoeedlaaGreat
open _root_.Go.Proofs.Tryz
variable{vl:Act}{vG:Array Edge}{vp:Code}{vm:Exit->AS->Prop}{vd:FuncId}{s vq:GS}{a j:Int}{i:IntKind}{vk:List (List D)}{vb:List (Nat×AV)}{R:List AV}{v:List D}{g:List Nat}{H vA:List Ow}{n:Nat}{uW:Nat->List D}{vh:Nat->Value}{vC:Operand->AV}{vM:Option (Nat×Bool)}{vz:Option Tmp}{vs uI:Ow}{P:Program}{vF:String}{d:TypeDesc}{t U:TypeId}{z u um:Value}
section
open Go.RowKit
def CA(b:List Nat):List (List D):=b.map λz=>[ex (.int .u8 (z:Nat))]
def Eq(T:TypeId)(b:List Nat):D:=slD T 1 (CA b)
def byS(b:List Nat):ByteArray:=(b.map λz:Nat=>(z:Int)).foldl (λr n=>r.push (UInt8.ofNat n.toNat)) ByteArray.empty
def stD(b:List Nat):D:=ex (.string (byS b))
theorem Cg(b:List Nat):(CA b).length=b.length:=by simp[CA]
theorem Oj{b:List Nat}{k:Nat}(h:k<b.length):(CA b).getD k []=[ex (.int .u8 ((b.getD k 0:Nat):Int))]:=by
 simp[CA,h]
theorem Jb(b c:List Nat):CA (b++c)=CA b++CA c:=by simp[CA]
theorem Zj:∀(b:List Nat) (r:ByteArray),((b.map λz:Nat=>(z:Int)).foldl (λr n=>r.push (UInt8.ofNat n.toNat)) r).data=r.data++(b.map UInt8.ofNat).toArray
 |[],r=>by simp
 |z::b,r=>by
  rw[Ybb,YdB,Zj b];simp
theorem Zi(b:List Nat):(byS b).toList=b.map UInt8.ofNat:=by
 rw[ByteArray.toList_eq,byS,Zj];simp
theorem A52:∀{b c:List Nat},(∀z∈b,z<256)->(∀z∈c,z<256)->b.map UInt8.ofNat=c.map UInt8.ofNat->b=c
 |[],[],_,_,_=>rfl
 |[],_::_,_,_,h=>by simp at h
 |_::_,[],_,_,h=>by simp at h
 |z::b,y::c,E,G,h=>by
  simp only[Ybb,List.cons.injEq]at h;have W:=congrArg UInt8.toNat h.1;rw[UInt8.toNat_ofNat',UInt8.toNat_ofNat',YaV (E z Ybk),YaV (G y Ybk)]at W;rw[W,A52 (λx C=>E x (Ybc _ C)) (λx C=>G x (Ybc _ C)) h.2]
theorem A2R{b c:List Nat}(E:∀z∈b,z<256)(G:∀z∈c,z<256):((byS b).toList==(byS c).toList)=decide (b=c):=by
 rw[Zi,Zi];by_cases h:b=c
 .subst h;simp
 .rw [Yad h]
  exact beq_eq_false_iff_ne.2 λe=>h (A52 E G e)
theorem A8M(w:World)(l:List Nat)(A:Option Addr)(c:Nat)(Q:0<(CA l).length->∃b o,A=some ⟨b,o,none⟩/\(∀k,k<(CA l).length->((CA l).getD k []).length=1/\Lies s b (o+k*1) n ((CA l).getD k [])))(F:w=s.w):(Conv.bytesToString (.slice A l.length c)).run P w=.ok (.string (byS l)) w:=by
 subst F;by_cases q:0<l.length
 .obtain ⟨g, o, rfl, B⟩:=Q (by rw [Cg]; exact q)
  refine run_bytesToString s.w ⟨g,o,none⟩ l.length c (l.map λz:Nat=>(z:Int)) ?_
  have:=run_loadCells (P:=P) (w:=s.w) ⟨g,o,none⟩ l.length (λj=>.int .u8 ((l.getD j 0:Nat):Int)) λj X=>by
   obtain⟨-,E⟩:=B j (by rw[Cg];exact X);rw[Oj X]at E;obtain⟨u,G,-,x⟩:=E.cell (k:=0) ZbR;have x:u=.int .u8 ((l.getD j 0:Nat):Int):=x;rw[x]at G
   have H:(⟨g,o,none⟩:Addr).add j=⟨g,o+j,none⟩:=by
    unfold Addr.add;split
    .rename_i q;subst q;rfl
    .rfl
   rw[H];simpa using G
  rw[this];congr 1;apply Array.ext';apply YbX;intro j;simp;by_cases X:j<l.length
  .simp [X]
  .simp [X]
 .obtain rfl:l=[]:=YaE ZbC
  have C:∀A c,(Conv.bytesToString (.slice A 0 c)).run P s.w=.ok (.string ByteArray.empty) s.w:=λA c=>by
   cases A with
   |none=>rfl
   |some a=>exact run_bytesToString s.w a 0 c [] rfl
  exact C A c
section
variable {P:Program} {hp:List Ow} {arg:Operand->AV} {dd:Option Tmp} {ty:TypeId} {ps:String} {af:Array Edge} {gd:Option (Nat×Bool)}
theorem Fm{x:Operand}{S T E n b F H J L d:Nat}{l:List Nat}(C:HO hp (arg x)=some (Eq d l))(p:Tab P S (.slice E) n b z)(Z:Tab P E (.int .u8) J L um)(e:Tab P T .string F H u):Quiet P hp ⟨dd,.convert S T x,ty,ps,af,gd⟩ arg (.d (stD l)):=by
 refine⟨λbase s V i G v I h=>?_⟩;have q:=DV I (h x ZcR) C;obtain⟨A,c,W,B,K,Q⟩:=q;rw[Cg]at W B;refine BW (v:=.string (byS l)) ?_ ⟨GS.Le.refl s,rfl⟩
 have key:(convert S T (i x)).run P s.w=.ok (.string (byS l)) s.w:=by
  rw[W,run_convert_bytes_string s.w S T E A l.length c p.und Z.und e.und];exact A8M s.w l A c Q rfl
 simp only[execOp,Sem.run_bind,key,Result.andThen_ok,Sem.run_pure]
theorem A78{x y:Operand}{b c:List Nat}(C:arg x=.d (stD b))(M:arg y=.d (stD c))(E:∀z∈b,z<256)(G:∀z∈c,z<256):Quiet P hp ⟨dd,.binOp .eql t x y U,ty,ps,af,gd⟩ arg (.d (eB (decide (b=c)))):=
 CO rfl C M λw=>by
  have:=A2R E G;simp only[eqGuard,binOp,Op.stringOp,this];rfl
theorem To{T U:TypeId}{x y:Operand}{b c:List Nat}(C:arg x=.d (stD b))(M:arg y=.d (stD c))(E:∀z∈b,z<256)(G:∀z∈c,z<256):Quiet P hp ⟨dd,.binOp .neq T x y U,ty,ps,af,gd⟩ arg (.d (eB (!decide (b=c)))):=
 CO rfl C M λw=>by
  have:=A2R E G;simp only[eqGuard,binOp,Op.stringOp,this];rfl
end
def GY(c:Nat->List D):List D:=c 0++(c 1++(c 2++(c 3++(c 4++(c 5++(c 6++c 7))))))
theorem Ey{c:Nat->List D}(h:∀i,(c i).length=n):(GY c).length=8*n:=by
 simp only[GY,Yac,h];omega
theorem Wo(h:∀i,(uW i).length=n){i q:Nat}(J:i<8)(m:q<n):(GY uW)[i*n+q]? = (uW i)[q]?:=by
 unfold GY
 match i,J with
 |0,_=>rw[Yaw Zcn];exact Zhl
 |1,_=>rw[Yak Zcn,h,Yaw Zcn];exact Zhl
 |2,_=>rw[Yak Zcn,h,Yak Zcn,h,Yaw Zcn];exact Zhl
 |3,_=>rw[Yak Zcn,h,Yak Zcn,h,Yak Zcn,h,Yaw Zcn];exact Zhl
 |4,_=>rw[Yak Zcn,h,Yak Zcn,h,Yak Zcn,h,Yak Zcn,h,Yaw Zcn];exact Zhl
 |5,_=>rw[Yak Zcn,h,Yak Zcn,h,Yak Zcn,h,Yak Zcn,h,Yak Zcn,h,Yaw Zcn];exact Zhl
 |6,_=>rw[Yak Zcn,h,Yak Zcn,h,Yak Zcn,h,Yak Zcn,h,Yak Zcn,h,Yak Zcn,h,Yaw Zcn];exact Zhl
 |7,_=>rw[Yak Zcn,h,Yak Zcn,h,Yak Zcn,h,Yak Zcn,h,Yak Zcn,h,Yak Zcn,h,Yak Zcn,h];exact Zhl
theorem Do{c:Nat->List D}{n i:Nat}(h:∀i,(c i).length=n)(J:i<8):PartAt (GY c) (i*n) n (c i):=by
 have v:i*n+n<=8*n:=Zjc
 refine⟨by rw[Ey h];omega,?_⟩;apply YbX;intro q;rw[YaK];split
 .rename_i m
  rw[YbT];exact Wo h J m
 .rename_i m
  rw[YbI Zcn]
theorem A43{n i:Nat}(h:∀i,(uW i).length=n)(r:v.length=n)(J:i<8):SetAt (GY uW) (i*n) v (GY (upF uW i v)):=by
 have Q:∀j,(upF uW i v j).length=n:=λj=>by unfold upF;split;exact r;exact h j
 have C:i*n+n<=8*n:=Zjc
 refine⟨by rw[Ey h];omega,?_⟩;apply YbX;intro q;by_cases m:q<8*n
 .have g:0<n:=by rcases YaB n with e | e; subst e; omega; exact e
  have W:q=q/n*n+q%n:=by have:=YcT q n;rw[YaM]at this;omega
  have O:q/n<8:=by rw[YdO g];exact m
  have F:q%n<n:=YaR _ g
  have o:(GY (upF uW i v))[q]? = (upF uW i v (q/n))[q%n]?:=by
   have:=Wo Q O F;rwa [<-W]at this
  have H:(GY uW)[q]? = (uW (q/n))[q%n]?:=by
   have:=Wo h O F;rwa [<-W]at this
  rw[o];unfold TQ;have L:((GY uW).take (i*n)).length=i*n:=by rw[YaO,Ey h];omega
  by_cases A:q<i*n
  .have:q/n≠i:=λe=>by rw [e] at W;omega
   rw[Yaw ZbC,YaK,Yao A,H,upF,Yaj this]
  .rw [Yak ZbC, L]
   by_cases B:q<i*n+n
   .have E:q/n=i:=by
     apply Nat.div_eq_of_lt_le
     .omega
     .rw [YcP];omega
    have l:q-i*n=q%n:=by rw[E]at W;omega
    rw[Yaw ZbC,upF,Yao E,l]
   .have:q/n≠i:=λe=>by rw [e] at W;omega
    rw[Yak ZbC,YbT,r,upF,Yaj this,<-H];exact Zhl
 .rw [YbI (by rw[Gy (by rw[Ey h];omega),Ey h];omega),YbI (by rw[Ey Q];omega)]
def Hv(q:RQ):List D:=A5B q.b q.l q.b' q.l'
def Iq(L:List (List RTm)):D:=slD 28 1 (L.map λp=>[Lh p])
def TI(L:List (List (List RTm))):D:=slD 24 1 (L.map λp=>[Iq p])
def Hn(L:List RQ):D:=slD 111 4 (L.map Hv)
def Ju(a:RQ×RQ):List D:=Hv a.1++Hv a.2
def WD(L:List (RQ×RQ)):D:=slD 129 8 (L.map Ju)
def DB(f:Nat->RQ×RQ):List D:=GY λi=>Ju (f i)
def Gl(L:List (Nat->RQ×RQ)):D:=slD 131 64 (L.map DB)
def MR(f:Nat->RQ):List D:=GY λi=>Hv (f i)
def A0B(L:List (Nat->RQ)):D:=slD 187 32 (L.map MR)
def JF(s:RQ×List RTm):List D:=Hv s.1++[Lh s.2]
def VD(L:List (RQ×List RTm)):D:=slD 184 5 (L.map JF)
def NR(L:List Int):D:=slD 3 1 (L.map λz=>[eI z])
def Ef(k:Cor):List D:=[eI k.n,Iq k.e,Iq k.f]
def EM(c:Clm):List D:=[eI c.kind,Lh c.p,eI c.n,eI c.d,eI c.r,Er c.o,Iq c.l,NR c.s,Gl c.b]
def up8(f:Nat->List RQ):List D:=oct λi=>Hn (f i)
def RY(r:Rsl):List D:=CN r.l++(Hn r.q::up8 r.r)
def DI(e:Crt):List D:=[eI e.n,Iq e.cof,Iq e.g,Er e.o,TI e.c,TI e.q,TI e.s]++(RY e.r++[WD e.a,VD e.sq,A0B e.x,Gl e.b])
def DG(f:Fct):List D:=Ef f.k++(EM f.c++DI f.e)
abbrev wH(b:List Nat):List Ow:=[.var 103 [.own 1],.row 5 1 (CA b)]
def Wr(f:FuncId)(x:D)(e:List Nat):Prop:=∀b,b.length+e.length<=1000000000000->Con prog f [.ptr 0 0,.d x] (wH b) [1] (λr P=>r=.d Cs/\P=wH (b++e))
theorem Wr.intro{f:FuncId}{x:D}{e:List Nat}(h:∀b,b.length+e.length<=1000000000000->Con prog f [.ptr 0 0,.d x] (wH b) [1] (λr P=>r=.d Cs/\P.take 2=wH (b++e))):Wr f x e:=λb E=>(h b E).cut λr P ⟨q,A⟩=>ZaS
theorem BD{c:Func}{Q:AV->List Ow->Prop}(p:P.funcs[vd]? = some c)(E:c.body=some vp)(a:∀R w,(callFunc vd R).run P w=.ok (.enter vd R) w)(g:Nat.ble R.length c.ntmps=true)
  (h:∀(y:An) (b T:Value),AWp P y c.ntmps vp (FinC P c [1] [b,T] Q) ⟨Jo 0 R,[vs,uI,.pin [(b,.own 0)]]⟩):Con P vd R [vs,uI] [1] Q:=
 Tz p E a g λy J r=>by
  match J,r with
  |[b,T],_=>exact h y b T
theorem BZ{x:Operand}{id off:Nat}(C:vC x=.ptr id off):Quiet P H ⟨vz,.nilCheck x,t,vF,vG,vM⟩ vC (.ptr id off):=by
 refine⟨λbase s V i q v Z r=>?_⟩;have Q:=r x ZcR;rw[C]at Q;obtain⟨k,b,A,g⟩:=Q;refine BW (v:=i x) ?_ ⟨GS.Le.refl s,k,b,A,g⟩;simp[execOp,g]
theorem Dk(n:Nat)(g:n<18446744073709551616):Wr 120 (ex (.int .u64 (n:Nat))) (By n):=Wr.intro λb E=>by
 refine BD func120 rfl (Ag func120 ZbG ZbG) rfl λy z j=>?_;rw[ntmps120];refine Go ?_;refine AC (λw e=>∃H A,w=A/\A<18446744073709551616/\H++By A=b++By n/\e=⟨[(0,.ptr 0 0),(1,.d (ex (.int .u64 (A:Nat))))],[.var 103 [.own 1],.row 5 1 (CA H),.pin [(z,.own 0)]]⟩) ?le ⟨b,n,rfl,g,rfl,rfl⟩ ?round
 case le=>exact Ac Zca (by exact HpLe.cons (Ad rfl)<|Yr<|HpLe.cons (Ak rfl)<|HpLe.nil)
 case round=>
  rintro A _ ⟨H,_,rfl,l,q,rfl⟩;have B:(H++By A).length=(b++By n).length:=by rw[q]
  rw[Yac,Yac]at B;have C:=HW A;by_cases h:128<=A
  .have W:By A=(A%128+128)::By (A/128):=by rw [By, Yaj ZbC]
   have o:By A=[A%128+128]++By (A/128):=W;rw[W,Yat]at B;have I:=Cg H;have r:=HW (A/128);refine Go ?_;refine Wq (BZ (ao rfl)) ?_;refine Go ?_;refine Wq (Dn (r:=((A%128+128:Nat):Int)) (ao rfl) (ao rfl) (by rw[IntKind.wrap_u8,IntKind.wrap_u8];omega)) ?_;(refine De rfl rfl ?_;(refine Dc (Aa rfl) (Aa rfl) rfl rfl rfl rfl rfl ?_;(repeat ((first | refine⟨_,Ar (ao rfl),?_⟩ | refine⟨_,Po rfl,?_⟩);refine⟨_,rfl,?_⟩));refine⟨_,rfl,?_⟩));(refine OP (r2:=[[ex (.int .u8 ((A%128+128:Nat):Int))]]) (ao rfl) rfl rfl (Aa rfl) (Aa rfl) rfl rfl Zdq Zdq rfl Zcy rfl ?_);refine Wq (BZ (ao rfl)) ?_;refine Wq AB ?_;refine Eo (ao rfl) (ao rfl) rfl (Aa rfl) Zdz rfl rfl ?_;refine Go ?_;refine Wq (Hh (r:=((A/128:Nat):Int)) (ao rfl) (ao rfl) ZbH ZcL) ?_;refine Go ?_;refine Ai (A/128) ZbC ⟨H++[A%128+128],A/128,rfl,by omega,by rw[Yaf,<-o];exact q,rfl⟩ ?_;exact Ac Zca (by refine HpLe.cons (Ad rfl) ?_;(refine HpLe.cons (OwLe.row (by rw[Jb];rfl)) ?_);exact HpLe.cons (Ak rfl)<|HpLe.nil)
  .have W:By A=[A]:=by rw [By, Yao ZbC]
   rw[W,Yat]at B;rw[W]at q;have I:=Cg H;refine Ah<|Y1<|Wm ?_;refine Wq AL ?_;refine Y0<|Cf<|Cc<|Bz<|BM<|BE<|Yn<|AWp.region<|Wm<|Wm ?_;refine Wq (BZ (ao rfl)) ?_;refine Wq AB ?_;refine Wq Cm ?_;refine Wm ?_;refine Wq (AO (r:=((A:Nat):Int)) (ao rfl) (Aa rfl) (Aa rfl) ZcC) ?_;(refine De rfl rfl ?_;(refine Dc (Aa rfl) (Aa rfl) rfl rfl rfl rfl rfl ?_;(repeat ((first | refine⟨_,Ar (ao rfl),?_⟩ | refine⟨_,Po rfl,?_⟩);refine⟨_,rfl,?_⟩));refine⟨_,rfl,?_⟩));(refine OP (r2:=[[ex (.int .u8 ((A:Nat):Int))]]) (ao rfl) rfl rfl (Aa rfl) (Aa rfl) rfl rfl Zdq Zdq rfl Zcy rfl ?_);refine Wq (BZ (ao rfl)) ?_;refine Wq AB ?_;refine Eo (ao rfl) (ao rfl) rfl (Aa rfl) Zdz rfl rfl ?_;apply AWl.nil
   first | refine Bt RetsA.none rfl ?_ rfl | refine AW RetsA.none rfl ?_ rfl
   exact⟨rfl,by rw[<-q,wH,Jb];rfl⟩
def IW(z:Int):Prop:=-9223372036854775808<=z/\z<=9223372036854775807
structure TW(t:RTm):Prop where
 n:SmW t.l
 d:SmW t.l'
abbrev FF{U:Type}(D:U->Prop)(l:List U):Prop:=∀x∈l,D x
abbrev PoW:List RTm->Prop:=FF TW
abbrev PsW:List (List RTm)->Prop:=FF PoW
abbrev TaW:List (List (List RTm))->Prop:=FF PsW
def FG{U:Type}(D:U->Prop)(f:Nat->U):Prop:=∀i,i<8->D (f i)
theorem BC{U:Type}[Inhabited U]{l:List U}{k:Nat}(h:k<l.length):l.getD k default∈l:=by
 exact Zgh
theorem Ck{U:Type}[Inhabited U](e:U->List Nat){l:List U}{k:Nat}(h:k<l.length):(l.take (k+1)).flatMap e=(l.take k).flatMap e++e (l.getD k default):=by
 rw[YcX,Yab h,List.flatMap_append,Yaa,Yab h];simp
theorem Dh{U:Type}[Inhabited U](e:U->List Nat){l:List U}{k:Nat}(h:k<l.length):((l.take k).flatMap e).length+(e (l.getD k default)).length<=(l.flatMap e).length:=by
 have q:l.flatMap e=(l.take (k+1)).flatMap e++(l.drop (k+1)).flatMap e:=by rw[<-List.flatMap_append,YbV]
 rw[q,Ck e h,Yac,Yac];omega
def DF{U:Type}(e:U->List Nat)(f:Nat->U)(k:Nat):List Nat:=(List.range k).flatMap λi=>e (f i)
theorem Es{U:Type}(e:U->List Nat)(f:Nat->U)(k:Nat):DF e f (k+1)=DF e f k++e (f k):=by simp[DF,YcB]
theorem Gu{U:Type}(e:U->List Nat)(f:Nat->U){k:Nat}:∀{n:Nat},k<n->(DF e f k).length+(e (f k)).length<=(DF e f n).length
 |n+1,h=>by
  rw[Es,Yac];by_cases B:k=n
  .subst B
   exact Yai _
  .have:=Gu e f (n:=n) (show k<n by omega)
   omega
theorem Oi{X Y W:List Nat}(h:Y=X++W):CA X++CA W=CA Y:=by rw[h,Jb]
theorem Fd{w n m:Nat}(h:2^n=m):((w:Int)).fdiv (2^n)=((w/m:Nat):Int):=by
 subst h;rw[Int.fdiv_eq_ediv_of_nonneg _ (by have:(0:Int)<2^n:=Int.pow_pos ZbC;omega)]
 norm_cast
theorem FS(z:Int)(n:IW z):Wr 54 (eI z) (Bs z):=Wr.intro λb E=>by
 obtain⟨q,A⟩:=n;by_cases h:0<=z
 .have e:Bs z=By (2*z.toNat):=by rw [Bs, So, Yaj ZbC]
  rw[e]at E ⊢;have G:=Dk (2*z.toNat) ZbC b E;refine BD func54 rfl (Ag func54 ZbG ZbG) rfl λy B j=>?_;rw[ntmps54];refine Y1<|Wm ?_;refine Wq Bc ?_;refine Y0<|Ct<|AWp.region<|Wm<|Wm ?_;refine Wq (AO (r:=((z.toNat:Nat):Int)) (ao rfl) (Aa rfl) (Aa rfl) ZcI) ?_;refine Wq (Hj (r:=((2*z.toNat:Nat):Int)) (ao rfl) (ao rfl) ZcI) ?_
  exact ZaT
 .have e:Bs z=By (2*(-(z+1)).toNat+1):=by rw [Bs, So, Yao ZbC]
  rw[e]at E ⊢;have G:=Dk (2*(-(z+1)).toNat+1) ZbC b E;refine BD func54 rfl (Ag func54 ZbG ZbG) rfl λy B j=>?_;rw[ntmps54];refine Y1<|Wm ?_;refine Wq AL ?_;refine Y0<|Cf<|AWp.region<|Wm<|Wm ?_;refine Wq Xe ?_;refine Wq A1o ?_;refine Wq (AO (r:=(((-(z+1)).toNat:Nat):Int)) (ao rfl) (Aa rfl) (Aa rfl) ZcI) ?_;refine Wq (Hj (r:=((2*(-(z+1)).toNat:Nat):Int)) (ao rfl) (ao rfl) ZcI) ?_;refine Wq (Dn (r:=((2*(-(z+1)).toNat+1:Nat):Int)) (ao rfl) (ao rfl) ZcI) ?_
  exact ZaT
theorem SC(s:Bool)(l:List Nat)(I:SmW l):Wr 281 (AP [eB s,wD l]) (FD s l):=Wr.intro λb E=>by
 have c:∀k,k<l.length->l.getD k 0<4294967296:=λk B=>I.1 _ (BC B);have o:=I.2;have Z:(FD s l).length=(By (2*l.length+(if s=true then 1 else 0))).length+(l.flatMap Cy).length:=by rw[FD,Yac]
 have a:2*l.length+(if s=true then 1 else 0)<18446744073709551616:=by split<;>omega
 obtain⟨N,V⟩:∃N,N=2*l.length+(if s=true then 1 else 0):=⟨_,rfl⟩;have m:FD s l=By N++l.flatMap Cy:=by rw[V];rfl
 rw[<-V]at a Z;have G:=Dk N a b ZbC;refine BD func281 rfl (Ag func281 ZbG ZbG) rfl λy z j=>?_;rw[ntmps281];apply Y1;refine Bx ?_;refine Y0<|Y1 ?_;refine Wq AB ?_;refine Wq As ?_;refine Wq Ro ?_;refine Wq (AO (r:=((l.length:Nat):Int)) (ao rfl) (Aa rfl) (Aa rfl) (EW ZbC)) ?_;refine Wq (Hj (r:=((2*l.length:Nat):Int)) (ao rfl) (ao rfl) ZcI) ?_;refine Wa<|Y0<|Ah<|Y1 ?_;refine Wq AB ?_;refine Wq As ?_;apply Y0
 cases s
 .have J:N=2*l.length:=by rw [V];simp
  refine Go ?_;refine AU [0,1] [] [] (ZeF) Zby rfl rfl ZbB Zbz ZbH Zbx ZbD trivial rfl ?_;rintro _ _ ⟨rfl,rfl⟩;refine ZfR ?_;refine AC (λq e=>∃k,k<=l.length/\q=l.length-k/\e=⟨[(0,.ptr 0 0),(20,.d (wD l)),(21,.d (eN l.length)),(22,.d (eN k))],[.var 103 [.own 1],.row 5 1 (CA (b++By N++(l.take k).flatMap Cy)),.pin [(z,.own 0)]]⟩) ?le ⟨0,by omega,rfl,rfl⟩ ?round
  case le=>exact Ac Zde Zdy
  case round=>
   exact ZaU
 .have J:N=2*l.length+1:=by rw [V];simp
  refine Go ?_;refine Wq (Dn (r:=((2*l.length+1:Nat):Int)) (ao rfl) (ao rfl) ZcI) ?_;refine Go ?_;refine AU [0,1] [] [] (ZeF) Zby rfl rfl ZbB Zbz ZbH Zbx ZbD trivial rfl ?_;rintro _ _ ⟨rfl,rfl⟩;refine ZfR ?_;refine AC (λq e=>∃k,k<=l.length/\q=l.length-k/\e=⟨[(0,.ptr 0 0),(20,.d (wD l)),(21,.d (eN l.length)),(22,.d (eN k))],[.var 103 [.own 1],.row 5 1 (CA (b++By N++(l.take k).flatMap Cy)),.pin [(z,.own 0)]]⟩) ?le ⟨0,by omega,rfl,rfl⟩ ?round
  case le=>exact Ac Zde Zdy
  case round=>
   exact ZaU
def Wl(f F:FuncId)(x:D)(e:List Nat):Prop:=∀b,b.length+e.length<=1000000000000->Con prog f [.ptr 0 0,.d x,.fn (F+1000000) [0]] (wH b) [1] (λr P=>r=.d Cs/\P=wH (b++e))
theorem Wl.intro{f F:FuncId}{x:D}{e:List Nat}(h:∀b,b.length+e.length<=1000000000000->Con prog f [.ptr 0 0,.d x,.fn (F+1000000) [0]] (wH b) [1] (λr P=>r=.d Cs/\P.take 2=wH (b++e))):Wl f F x e:=λb E=>(h b E).cut λr P ⟨q,A⟩=>ZaS
def VW(a:RQ×RQ):Prop:=QB a.1/\QB a.2
def SqW(s:RQ×List RTm):Prop:=QB s.1/\PoW s.2
structure CoW(k:Cor):Prop where
 n:IW k.n
 e:PsW k.e
 f:PsW k.f
structure ClW(c:Clm):Prop where
 kind:IW c.kind
 p:PoW c.p
 n:IW c.n
 d:IW c.d
 r:IW c.r
 o:FF (FG IW) c.o
 l:PsW c.l
 s:FF IW c.s
 b:FF (FG VW) c.b
structure RsW(r:Rsl):Prop where
 l:FG IW r.l
 q:FF QB r.q
 r:FG (FF QB) r.r
structure CrW(e:Crt):Prop where
 n:IW e.n
 cof:PsW e.cof
 g:PsW e.g
 o:FF (FG IW) e.o
 c:TaW e.c
 q:TaW e.q
 s:TaW e.s
 r:RsW e.r
 a:FF VW e.a
 sq:FF SqW e.sq
 x:FF (FG QB) e.x
 b:FF (FG VW) e.b
structure FW(f:Fct):Prop where
 k:CoW f.k
 c:ClW f.c
 e:CrW f.e
theorem XL(z:Int):IntKind.u64.wrap z=((u64 z:Nat):Int):=by
 rw[IntKind.wrap_u64];unfold u64;omega
theorem GH(q:RQ)(m:QB q):Wr 220 (AP (Hv q)) (CD q):=Wr.intro λb E=>by
 simp only[CD,Yac]at E;have c:=SC q.b q.l m.n (b) ZbK;have A:=SC q.b' q.l' m.d (b++FD q.b q.l) ZbK;refine BD func220 rfl (Ag func220 ZbG ZbG) rfl λy z j=>?_;rw[ntmps220];refine ZfP ?_;rintro _ _ ⟨rfl,rfl⟩;refine ZfR ?_;refine AU [0,1] [] [] (A) Zby rfl rfl ZbB Zbz ZbH Zbx ZbD trivial rfl ?_;rintro _ _ ⟨rfl,rfl⟩;refine Zid ?_
 first | refine Bt RetsA.none rfl ?_ rfl | refine AW RetsA.none rfl ?_ rfl
 exact Zkv
theorem Qp(a:RQ×RQ)(t:VW a):Wr 209 (AP (Ju a)) (GT a):=Wr.intro λb E=>by
 simp only[GT,Yac]at E;have c:=GH a.1 t.1 (b) ZbK;have q:=GH a.2 t.2 (b++CD a.1) ZbK;refine BD func209 rfl (Ag func209 ZbG ZbG) rfl λy z j=>?_;rw[ntmps209];refine ZfP ?_;rintro _ _ ⟨rfl,rfl⟩;refine Zhc ?_;rintro _ _ ⟨rfl,rfl⟩;refine Zid ?_
 first | refine Bt RetsA.none rfl ?_ rfl | refine AW RetsA.none rfl ?_ rfl
 exact⟨rfl,by simp only[GT,Yaf];rfl⟩
theorem Sm(a:Nat->Int)(t:FG IW a):Wr 124 (AP (CN a)) (Gz a):=Wr.intro λb E=>by
 have Z:Gz a=DF (Bs) a 8:=rfl;rw[Z]at E ⊢;refine BD func124 rfl (Ag func124 ZbG ZbG) rfl λy z j=>?_;rw[ntmps124];refine Go ?_;refine AC (λw e=>∃k,k<=8/\w=8-k/\e=⟨[(0,.ptr 0 0),(6,.d (AP (CN a))),(7,.d (eN k))],[.var 103 [.own 1],.row 5 1 (CA (b++DF (Bs) a k)),.pin [(z,.own 0)]]⟩) ?le ⟨0,by omega,rfl,rfl⟩ ?round
 case le=>exact Ac Zcf Zcs
 case round=>
  rintro w _ ⟨k,B,rfl,rfl⟩;by_cases O:k<8
  .have B:=Gu (Bs) a O
   have G:=FS (a k) (t k O) (b++DF (Bs) a k) ZbK;apply Y1;refine Wq Bc ?_;refine Y0<|Ah<|Ct<|Ys<|Ah<|AWp.block<|Y1 ?_;refine Wq (Gw (ao rfl) (ao rfl) (Aa rfl) (Aa rfl) rfl O (CellAt.mon O)) ?_;refine Wa<|Y0<|AWp.region<|Wm<|Wm ?_
   exact ZiG
  .exact ZaV
theorem Ab1(f:Nat->RQ×RQ)(p:FG VW f):Wr 272 (AP (DB f)) (Hg f):=Wr.intro λb E=>by
 have Z:Hg f=DF (GT) f 8:=rfl;rw[Z]at E ⊢;refine BD func272 rfl (Ag func272 ZbG ZbG) rfl λy z j=>?_;rw[ntmps272];refine Go ?_;refine AC (λw e=>∃k,k<=8/\w=8-k/\e=⟨[(0,.ptr 0 0),(6,.d (AP (DB f))),(7,.d (eN k))],[.var 103 [.own 1],.row 5 1 (CA (b++DF (GT) f k)),.pin [(z,.own 0)]]⟩) ?le ⟨0,by omega,rfl,rfl⟩ ?round
 case le=>exact Ac Zcf Zcs
 case round=>
  rintro w _ ⟨k,B,rfl,rfl⟩;by_cases O:k<8
  .have B:=Gu (GT) f O
   have G:=Qp (f k) (p k O) (b++DF (GT) f k) ZbK;refine ZfJ ?_;refine Zhd ?_;exact ZiF
  .exact ZaV
theorem A5H(f:Nat->RQ)(p:FG QB f):Wr 213 (AP (MR f)) (QP f):=Wr.intro λb E=>by
 have Z:QP f=DF (CD) f 8:=rfl;rw[Z]at E ⊢;refine BD func213 rfl (Ag func213 ZbG ZbG) rfl λy z j=>?_;rw[ntmps213];refine Go ?_;refine AC (λw e=>∃k,k<=8/\w=8-k/\e=⟨[(0,.ptr 0 0),(6,.d (AP (MR f))),(7,.d (eN k))],[.var 103 [.own 1],.row 5 1 (CA (b++DF (CD) f k)),.pin [(z,.own 0)]]⟩) ?le ⟨0,by omega,rfl,rfl⟩ ?round
 case le=>exact Ac Zcf Zcs
 case round=>
  rintro w _ ⟨k,B,rfl,rfl⟩;by_cases O:k<8
  .have B:=Gu (CD) f O
   have G:=GH (f k) (p k O) (b++DF (CD) f k) ZbK;refine ZfJ ?_;refine Zhd ?_;exact ZiF
  .exact ZaV
theorem A7M(t:RTm)(L:TW t):Wr 122 (AP (rtC t)) (Eu t):=Wr.intro λb E=>by
 have Z:Eu t=CD ⟨t.b,t.l,t.b',t.l'⟩++DF (λz=>By (u64 z)) t.m 8:=rfl;rw[Z]at E ⊢;simp only[Yac]at E;have c:=GH ⟨t.b,t.l,t.b',t.l'⟩ ⟨L.n,L.d⟩ b ZbC;refine BD func122 rfl (Ag func122 ZbG ZbG) rfl λy q j=>?_;rw[ntmps122];refine ZfP ?_;rintro _ _ ⟨rfl,rfl⟩;refine ZfR ?_;refine AC (λw e=>∃k,k<=8/\w=8-k/\e=⟨[(0,.ptr 0 0),(11,.d (AP (CN t.m))),(12,.d (eN k))],[.var 103 [.own 1],.row 5 1 (CA (b++CD ⟨t.b,t.l,t.b',t.l'⟩++DF (λz=>By (u64 z)) t.m k)),.pin [(q,.own 0)]]⟩) ?le ⟨0,by omega,rfl,rfl⟩ ?round
 case le=>exact Ac Zcf Zcs
 case round=>
  rintro w _ ⟨k,B,rfl,rfl⟩;by_cases O:k<8
  .have B:=Gu (λz=>By (u64 z)) t.m O
   have G:=Dk (u64 (t.m k)) (by unfold u64;omega) (b++CD ⟨t.b,t.l,t.b',t.l'⟩++DF (λz=>By (u64 z)) t.m k) ZbK;apply Y1;refine Wq Bc ?_;refine Y0<|Ah<|Ct<|Ys<|Ah<|AWp.block<|Y1 ?_;refine Wq (Gw (ao rfl) (ao rfl) (Aa rfl) (Aa rfl) rfl O (CellAt.mon O)) ?_;refine Wa<|Y0<|AWp.region<|Wm<|Wm ?_;refine Wq (AO (r:=((u64 (t.m k):Nat):Int)) (ao rfl) (Aa rfl) (Aa rfl) (XL (t.m k))) ?_
   exact ZiG
  .obtain rfl:k=8:=by omega
   refine Go ?_
   first | refine Bt RetsA.none rfl ?_ rfl | refine AW RetsA.none rfl ?_ rfl
   exact⟨rfl,by rw[Yaf];rfl⟩
theorem A9P(L:List (RTm))(s:FF TW L):Wl 121 122 (Lh L) (Bp Eu L):=Wl.intro λb E=>by
 have g:=Dl (e:=Eu) (l:=L) λx _=>RG x;have Z:(Bp Eu L).length=(By L.length).length+(L.flatMap Eu).length:=Zkw
 rw[Z]at E;have c:=Dk L.length ZbC b ZbC;refine BD func121 rfl (Ag func121 ZbG ZbG) rfl λy z j=>?_;rw[ntmps121];refine Y1<|Wm<|Wm ?_;refine Wq (Bh rfl (Aa rfl)) ?_;refine Wq (AO (r:=((L.length:Nat):Int)) (ao rfl) (Aa rfl) (Aa rfl) (EW ZbC)) ?_
 refine AU [0,1] [] [] (c) Zby rfl rfl ZbB Zbz ZbH Zbx ZbD trivial rfl ?_;rintro _ _ ⟨rfl,rfl⟩;refine Kr ?_;refine Y0<|Y1<|Wm ?_;refine Wq (Bh rfl (Aa rfl)) ?_;refine Wm<|Y0<|AWp.block ?_
 refine AC (λw e=>∃k,k<=L.length/\w=L.length-k/\e=⟨[(0,.ptr 0 0),(2,.fn (122+1000000) [0]),(13,.d (Lh L)),(14,.d (eN L.length)),(15,.d (eN k))],[.var 103 [.own 1],.row 5 1 (CA (b++By L.length++(L.take k).flatMap Eu)),.pin [(z,.own 0)]]⟩) ?le ⟨0,by omega,rfl,rfl⟩ ?round
 case le=>exact Zkx
 case round=>
  rintro w _ ⟨k,B,rfl,rfl⟩;by_cases O:k<L.length
  .have B:=Dh Eu O
   have G:=A7M (L.getD k default) (s _ (BC O)) (b++By L.length++(L.take k).flatMap Eu) ZbW;apply Y1;refine Wq Bc ?_;refine Y0<|Ah<|Ct<|Ys<|Ah<|AWp.block<|Y1 ?_;refine Wq (CE (k:=k) rfl (ao rfl) (Aa rfl) (Aa rfl) rfl O) ?_;refine Wq Ca ?_;refine Al ?_;refine Sf ?_;refine Y0<|AWp.region<|Wm ?_;refine Wq AF ?_
   refine AU [0,1] [0] [] (G) Zby rfl rfl ZbB Zbz ZbH Zbx ZbD trivial rfl ?_;rintro _ _ ⟨rfl,rfl⟩;refine ZgU ?_;exact Ac ZbT (by exact HpLe.cons (Ad rfl)<|HpLe.cons (OwLe.row (by rw[Ck Eu O,<-Yaf]))<|HpLe.cons (Ak rfl)<|HpLe.nil)
  .exact ZaW
theorem Rg(l:List (RTm))(I:FF TW l):Wr 55 (Lh l) (CH l):=Wr.intro λb E=>by
 have G:=A9P l I b E;refine BD func55 rfl (Ag func55 ZbG ZbG) rfl λy z j=>?_;rw[ntmps55];refine Go ?_;refine ZfS ?_;rintro _ _ ⟨rfl,rfl⟩;refine Zid ?_
 exact Zbw
theorem A9Q(L:List (List RTm))(s:FF PoW L):Wl 219 55 (Iq L) (Bp CH L):=Wl.intro λb E=>by
 have g:=Dl (e:=CH) (l:=L) λx _=>Kd _ _;have Z:(Bp CH L).length=(By L.length).length+(L.flatMap CH).length:=Zkw
 rw[Z]at E;have c:=Dk L.length ZbC b ZbC;refine BD func219 rfl (Ag func219 ZbG ZbG) rfl λy z j=>?_;rw[ntmps219];refine Y1<|Wm<|Wm ?_;refine Wq (Bh rfl (Aa rfl)) ?_;refine Wq (AO (r:=((L.length:Nat):Int)) (ao rfl) (Aa rfl) (Aa rfl) (EW ZbC)) ?_
 refine AU [0,1] [] [] (c) Zby rfl rfl ZbB Zbz ZbH Zbx ZbD trivial rfl ?_;rintro _ _ ⟨rfl,rfl⟩;refine Kr ?_;refine Y0<|Y1<|Wm ?_;refine Wq (Bh rfl (Aa rfl)) ?_;refine Wm<|Y0<|AWp.block ?_
 refine AC (λw e=>∃k,k<=L.length/\w=L.length-k/\e=⟨[(0,.ptr 0 0),(2,.fn (55+1000000) [0]),(13,.d (Iq L)),(14,.d (eN L.length)),(15,.d (eN k))],[.var 103 [.own 1],.row 5 1 (CA (b++By L.length++(L.take k).flatMap CH)),.pin [(z,.own 0)]]⟩) ?le ⟨0,by omega,rfl,rfl⟩ ?round
 case le=>exact Zkx
 case round=>
  rintro w _ ⟨k,B,rfl,rfl⟩;by_cases O:k<L.length
  .have B:=Dh CH O
   have G:=Rg (L.getD k default) (s _ (BC O)) (b++By L.length++(L.take k).flatMap CH) ZbW;apply Y1;refine Wq Bc ?_;refine Y0<|Ah<|Ct<|Ys<|Ah<|AWp.block<|Y1 ?_;refine Wq (CE (k:=k) rfl (ao rfl) (Aa rfl) (Aa rfl) rfl O) ?_;refine Wq AT ?_;refine Wa<|Y0<|AWp.region<|Wm<|Wm ?_
   refine AU [0,1] [0] [] (G) Zby rfl rfl ZbB Zbz ZbH Zbx ZbD trivial rfl ?_;rintro _ _ ⟨rfl,rfl⟩;refine ZgU ?_;exact Ac ZbT (by exact HpLe.cons (Ad rfl)<|HpLe.cons (OwLe.row (by rw[Ck CH O,<-Yaf]))<|HpLe.cons (Ak rfl)<|HpLe.nil)
  .exact ZaW
theorem JU(l:List (List RTm))(I:FF PoW l):Wr 119 (Iq l) (Bj l):=Wr.intro λb E=>by
 have G:=A9Q l I b E;refine BD func119 rfl (Ag func119 ZbG ZbG) rfl λy z j=>?_;rw[ntmps119];refine Go ?_;refine ZfS ?_;rintro _ _ ⟨rfl,rfl⟩;refine Zid ?_
 exact Zbw
theorem A7K(L:List (List (List RTm)))(s:FF PsW L):Wl 273 119 (TI L) (Bp Bj L):=Wl.intro λb E=>by
 have g:=Dl (e:=Bj) (l:=L) λx _=>Kd _ _;have Z:(Bp Bj L).length=(By L.length).length+(L.flatMap Bj).length:=Zkw
 rw[Z]at E;have c:=Dk L.length ZbC b ZbC;refine BD func273 rfl (Ag func273 ZbG ZbG) rfl λy z j=>?_;rw[ntmps273];refine Y1<|Wm<|Wm ?_;refine Wq (Bh rfl (Aa rfl)) ?_;refine Wq (AO (r:=((L.length:Nat):Int)) (ao rfl) (Aa rfl) (Aa rfl) (EW ZbC)) ?_
 refine AU [0,1] [] [] (c) Zby rfl rfl ZbB Zbz ZbH Zbx ZbD trivial rfl ?_;rintro _ _ ⟨rfl,rfl⟩;refine Kr ?_;refine Y0<|Y1<|Wm ?_;refine Wq (Bh rfl (Aa rfl)) ?_;refine Wm<|Y0<|AWp.block ?_
 refine AC (λw e=>∃k,k<=L.length/\w=L.length-k/\e=⟨[(0,.ptr 0 0),(2,.fn (119+1000000) [0]),(13,.d (TI L)),(14,.d (eN L.length)),(15,.d (eN k))],[.var 103 [.own 1],.row 5 1 (CA (b++By L.length++(L.take k).flatMap Bj)),.pin [(z,.own 0)]]⟩) ?le ⟨0,by omega,rfl,rfl⟩ ?round
 case le=>exact Zkx
 case round=>
  rintro w _ ⟨k,B,rfl,rfl⟩;by_cases O:k<L.length
  .have B:=Dh Bj O
   have G:=JU (L.getD k default) (s _ (BC O)) (b++By L.length++(L.take k).flatMap Bj) ZbW;apply Y1;refine Wq Bc ?_;refine Y0<|Ah<|Ct<|Ys<|Ah<|AWp.block<|Y1 ?_;refine Wq (CE (k:=k) rfl (ao rfl) (Aa rfl) (Aa rfl) rfl O) ?_;refine Wq AT ?_;refine Wa<|Y0<|AWp.region<|Wm<|Wm ?_
   refine AU [0,1] [0] [] (G) Zby rfl rfl ZbB Zbz ZbH Zbx ZbD trivial rfl ?_;rintro _ _ ⟨rfl,rfl⟩;refine ZgU ?_;exact Ac ZbT (by exact HpLe.cons (Ad rfl)<|HpLe.cons (OwLe.row (by rw[Ck Bj O,<-Yaf]))<|HpLe.cons (Ak rfl)<|HpLe.nil)
  .exact ZaW
theorem Pa(l:List (List (List RTm)))(I:FF PsW l):Wr 206 (TI l) (BQ l):=Wr.intro λb E=>by
 have G:=A7K l I b E;refine BD func206 rfl (Ag func206 ZbG ZbG) rfl λy z j=>?_;rw[ntmps206];refine Go ?_;refine ZfS ?_;rintro _ _ ⟨rfl,rfl⟩;refine Zid ?_
 exact Zbw
theorem AbJ(L:List (RQ))(s:FF QB L):Wl 308 220 (Hn L) (Bp CD L):=Wl.intro λb E=>by
 have g:=Dl (e:=CD) (l:=L) λx _=>Jn x;have Z:(Bp CD L).length=(By L.length).length+(L.flatMap CD).length:=Zkw
 rw[Z]at E;have c:=Dk L.length ZbC b ZbC;refine BD func308 rfl (Ag func308 ZbG ZbG) rfl λy z j=>?_;rw[ntmps308];refine Y1<|Wm<|Wm ?_;refine Wq (Bh rfl (Aa rfl)) ?_;refine Wq (AO (r:=((L.length:Nat):Int)) (ao rfl) (Aa rfl) (Aa rfl) (EW ZbC)) ?_
 refine AU [0,1] [] [] (c) Zby rfl rfl ZbB Zbz ZbH Zbx ZbD trivial rfl ?_;rintro _ _ ⟨rfl,rfl⟩;refine Kr ?_;refine Y0<|Y1<|Wm ?_;refine Wq (Bh rfl (Aa rfl)) ?_;refine Wm<|Y0<|AWp.block ?_
 refine AC (λw e=>∃k,k<=L.length/\w=L.length-k/\e=⟨[(0,.ptr 0 0),(2,.fn (220+1000000) [0]),(13,.d (Hn L)),(14,.d (eN L.length)),(15,.d (eN k))],[.var 103 [.own 1],.row 5 1 (CA (b++By L.length++(L.take k).flatMap CD)),.pin [(z,.own 0)]]⟩) ?le ⟨0,by omega,rfl,rfl⟩ ?round
 case le=>exact Zkx
 case round=>
  rintro w _ ⟨k,B,rfl,rfl⟩;by_cases O:k<L.length
  .have B:=Dh CD O
   have G:=GH (L.getD k default) (s _ (BC O)) (b++By L.length++(L.take k).flatMap CD) ZbW;apply Y1;refine Wq Bc ?_;refine Y0<|Ah<|Ct<|Ys<|Ah<|AWp.block<|Y1 ?_;refine Wq (CE (k:=k) rfl (ao rfl) (Aa rfl) (Aa rfl) rfl O) ?_;refine Wq Ca ?_;refine Al ?_;refine Sf ?_;refine Y0<|AWp.region<|Wm ?_;refine Wq AF ?_
   refine AU [0,1] [0] [] (G) Zby rfl rfl ZbB Zbz ZbH Zbx ZbD trivial rfl ?_;rintro _ _ ⟨rfl,rfl⟩;refine ZgU ?_;exact Ac ZbT (by exact HpLe.cons (Ad rfl)<|HpLe.cons (OwLe.row (by rw[Ck CD O,<-Yaf]))<|HpLe.cons (Ak rfl)<|HpLe.nil)
  .exact ZaW
theorem MW(l:List (RQ))(I:FF QB l):Wr 274 (Hn l) (GW l):=Wr.intro λb E=>by
 have G:=AbJ l I b E;refine BD func274 rfl (Ag func274 ZbG ZbG) rfl λy z j=>?_;rw[ntmps274];refine Go ?_;refine ZfS ?_;rintro _ _ ⟨rfl,rfl⟩;refine Zid ?_
 exact Zbw
theorem AbI(L:List (Nat->Int))(s:FF (FG IW) L):Wl 123 124 (Er L) (Bp Gz L):=Wl.intro λb E=>by
 have g:=Dl (e:=Gz) (l:=L) λx _=>Is Ms x;have Z:(Bp Gz L).length=(By L.length).length+(L.flatMap Gz).length:=Zkw
 rw[Z]at E;have c:=Dk L.length ZbC b ZbC;refine BD func123 rfl (Ag func123 ZbG ZbG) rfl λy z j=>?_;rw[ntmps123];refine Y1<|Wm<|Wm ?_;refine Wq (Bh rfl (Aa rfl)) ?_;refine Wq (AO (r:=((L.length:Nat):Int)) (ao rfl) (Aa rfl) (Aa rfl) (EW ZbC)) ?_
 refine AU [0,1] [] [] (c) Zby rfl rfl ZbB Zbz ZbH Zbx ZbD trivial rfl ?_;rintro _ _ ⟨rfl,rfl⟩;refine Kr ?_;refine Y0<|Y1<|Wm ?_;refine Wq (Bh rfl (Aa rfl)) ?_;refine Wm<|Y0<|AWp.block ?_
 refine AC (λw e=>∃k,k<=L.length/\w=L.length-k/\e=⟨[(0,.ptr 0 0),(2,.fn (124+1000000) [0]),(13,.d (Er L)),(14,.d (eN L.length)),(15,.d (eN k))],[.var 103 [.own 1],.row 5 1 (CA (b++By L.length++(L.take k).flatMap Gz)),.pin [(z,.own 0)]]⟩) ?le ⟨0,by omega,rfl,rfl⟩ ?round
 case le=>exact Zkx
 case round=>
  rintro w _ ⟨k,B,rfl,rfl⟩;by_cases O:k<L.length
  .have B:=Dh Gz O
   have G:=Sm (L.getD k default) (s _ (BC O)) (b++By L.length++(L.take k).flatMap Gz) ZbW;apply Y1;refine Wq Bc ?_;refine Y0<|Ah<|Ct<|Ys<|Ah<|AWp.block<|Y1 ?_;refine Wq (CE (k:=k) rfl (ao rfl) (Aa rfl) (Aa rfl) rfl O) ?_;refine Wq Ca ?_;refine Al ?_;refine Sf ?_;refine Y0<|AWp.region<|Wm ?_;refine Wq AF ?_
   refine AU [0,1] [0] [] (G) Zby rfl rfl ZbB Zbz ZbH Zbx ZbD trivial rfl ?_;rintro _ _ ⟨rfl,rfl⟩;refine ZgU ?_;exact Ac ZbT (by exact HpLe.cons (Ad rfl)<|HpLe.cons (OwLe.row (by rw[Ck Gz O,<-Yaf]))<|HpLe.cons (Ak rfl)<|HpLe.nil)
  .exact ZaW
theorem Sj(l:List (Nat->Int))(I:FF (FG IW) l):Wr 56 (Er l) (CC l):=Wr.intro λb E=>by
 have G:=AbI l I b E;refine BD func56 rfl (Ag func56 ZbG ZbG) rfl λy z j=>?_;rw[ntmps56];refine Go ?_;refine ZfS ?_;rintro _ _ ⟨rfl,rfl⟩;refine Zid ?_
 exact Zbw
theorem AbL(L:List (Nat->RQ×RQ))(s:FF (FG VW) L):Wl 271 272 (Gl L) (Bp Hg L):=Wl.intro λb E=>by
 have g:=Dl (e:=Hg) (l:=L) λx _=>Is Pw x;have Z:(Bp Hg L).length=(By L.length).length+(L.flatMap Hg).length:=Zkw
 rw[Z]at E;have c:=Dk L.length ZbC b ZbC;refine BD func271 rfl (Ag func271 ZbG ZbG) rfl λy z j=>?_;rw[ntmps271];refine Y1<|Wm<|Wm ?_;refine Wq (Bh rfl (Aa rfl)) ?_;refine Wq (AO (r:=((L.length:Nat):Int)) (ao rfl) (Aa rfl) (Aa rfl) (EW ZbC)) ?_
 refine AU [0,1] [] [] (c) Zby rfl rfl ZbB Zbz ZbH Zbx ZbD trivial rfl ?_;rintro _ _ ⟨rfl,rfl⟩;refine Kr ?_;refine Y0<|Y1<|Wm ?_;refine Wq (Bh rfl (Aa rfl)) ?_;refine Wm<|Y0<|AWp.block ?_
 refine AC (λw e=>∃k,k<=L.length/\w=L.length-k/\e=⟨[(0,.ptr 0 0),(2,.fn (272+1000000) [0]),(13,.d (Gl L)),(14,.d (eN L.length)),(15,.d (eN k))],[.var 103 [.own 1],.row 5 1 (CA (b++By L.length++(L.take k).flatMap Hg)),.pin [(z,.own 0)]]⟩) ?le ⟨0,by omega,rfl,rfl⟩ ?round
 case le=>exact Zkx
 case round=>
  rintro w _ ⟨k,B,rfl,rfl⟩;by_cases O:k<L.length
  .have B:=Dh Hg O
   have G:=Ab1 (L.getD k default) (s _ (BC O)) (b++By L.length++(L.take k).flatMap Hg) ZbW;apply Y1;refine Wq Bc ?_;refine Y0<|Ah<|Ct<|Ys<|Ah<|AWp.block<|Y1 ?_;refine Wq (CE (k:=k) rfl (ao rfl) (Aa rfl) (Aa rfl) rfl O) ?_;refine Wq Ca ?_;refine Al ?_;refine Sf ?_;refine Y0<|AWp.region<|Wm ?_;refine Wq AF ?_
   refine AU [0,1] [0] [] (G) Zby rfl rfl ZbB Zbz ZbH Zbx ZbD trivial rfl ?_;rintro _ _ ⟨rfl,rfl⟩;refine ZgU ?_;exact Ac ZbT (by exact HpLe.cons (Ad rfl)<|HpLe.cons (OwLe.row (by rw[Ck Hg O,<-Yaf]))<|HpLe.cons (Ak rfl)<|HpLe.nil)
  .exact ZaW
theorem Zl(l:List (Nat->RQ×RQ))(I:FF (FG VW) l):Wr 205 (Gl l) (Gm l):=Wr.intro λb E=>by
 have G:=AbL l I b E;refine BD func205 rfl (Ag func205 ZbG ZbG) rfl λy z j=>?_;rw[ntmps205];refine Go ?_;refine ZfS ?_;rintro _ _ ⟨rfl,rfl⟩;refine Zid ?_
 exact Zbw
theorem A3g(s:RQ×List RTm)(a:SqW s):Wr 211 (AP (JF s)) (Kt s):=Wr.intro λb E=>by
 simp only[Kt,Yac]at E;have c:=GH s.1 a.1 (b) ZbK;have q:=Rg s.2 a.2 (b++CD s.1) ZbK;refine BD func211 rfl (Ag func211 ZbG ZbG) rfl λy z j=>?_;rw[ntmps211];refine ZfP ?_;rintro _ _ ⟨rfl,rfl⟩;refine Zhc ?_;rintro _ _ ⟨rfl,rfl⟩;refine Zid ?_
 first | refine Bt RetsA.none rfl ?_ rfl | refine AW RetsA.none rfl ?_ rfl
 exact⟨rfl,by simp only[Kt,Yaf];rfl⟩
theorem AbK(L:List (Int))(s:FF IW L):Wl 204 54 (NR L) (Bp Bs L):=Wl.intro λb E=>by
 have g:=Dl (e:=Bs) (l:=L) λx _=>Ms x;have Z:(Bp Bs L).length=(By L.length).length+(L.flatMap Bs).length:=Zkw
 rw[Z]at E;have c:=Dk L.length ZbC b ZbC;refine BD func204 rfl (Ag func204 ZbG ZbG) rfl λy z j=>?_;rw[ntmps204];refine Y1<|Wm<|Wm ?_;refine Wq (Bh rfl (Aa rfl)) ?_;refine Wq (AO (r:=((L.length:Nat):Int)) (ao rfl) (Aa rfl) (Aa rfl) (EW ZbC)) ?_
 refine AU [0,1] [] [] (c) Zby rfl rfl ZbB Zbz ZbH Zbx ZbD trivial rfl ?_;rintro _ _ ⟨rfl,rfl⟩;refine Kr ?_;refine Y0<|Y1<|Wm ?_;refine Wq (Bh rfl (Aa rfl)) ?_;refine Wm<|Y0<|AWp.block ?_
 refine AC (λw e=>∃k,k<=L.length/\w=L.length-k/\e=⟨[(0,.ptr 0 0),(2,.fn (54+1000000) [0]),(13,.d (NR L)),(14,.d (eN L.length)),(15,.d (eN k))],[.var 103 [.own 1],.row 5 1 (CA (b++By L.length++(L.take k).flatMap Bs)),.pin [(z,.own 0)]]⟩) ?le ⟨0,by omega,rfl,rfl⟩ ?round
 case le=>exact Zkx
 case round=>
  rintro w _ ⟨k,B,rfl,rfl⟩;by_cases O:k<L.length
  .have B:=Dh Bs O
   have G:=FS (L.getD k default) (s _ (BC O)) (b++By L.length++(L.take k).flatMap Bs) ZbW;apply Y1;refine Wq Bc ?_;refine Y0<|Ah<|Ct<|Ys<|Ah<|AWp.block<|Y1 ?_;refine Wq (CE (k:=k) rfl (ao rfl) (Aa rfl) (Aa rfl) rfl O) ?_;refine Wq AT ?_;refine Wa<|Y0<|AWp.region<|Wm<|Wm ?_
   refine AU [0,1] [0] [] (G) Zby rfl rfl ZbB Zbz ZbH Zbx ZbD trivial rfl ?_;rintro _ _ ⟨rfl,rfl⟩;refine ZgU ?_;exact Ac ZbT (by exact HpLe.cons (Ad rfl)<|HpLe.cons (OwLe.row (by rw[Ck Bs O,<-Yaf]))<|HpLe.cons (Ak rfl)<|HpLe.nil)
  .exact ZaW
theorem AcW(L:List (RQ×RQ))(s:FF VW L):Wl 208 209 (WD L) (Bp GT L):=Wl.intro λb E=>by
 have g:=Dl (e:=GT) (l:=L) λx _=>Pw x;have Z:(Bp GT L).length=(By L.length).length+(L.flatMap GT).length:=Zkw
 rw[Z]at E;have c:=Dk L.length ZbC b ZbC;refine BD func208 rfl (Ag func208 ZbG ZbG) rfl λy z j=>?_;rw[ntmps208];refine Y1<|Wm<|Wm ?_;refine Wq (Bh rfl (Aa rfl)) ?_;refine Wq (AO (r:=((L.length:Nat):Int)) (ao rfl) (Aa rfl) (Aa rfl) (EW ZbC)) ?_
 refine AU [0,1] [] [] (c) Zby rfl rfl ZbB Zbz ZbH Zbx ZbD trivial rfl ?_;rintro _ _ ⟨rfl,rfl⟩;refine Kr ?_;refine Y0<|Y1<|Wm ?_;refine Wq (Bh rfl (Aa rfl)) ?_;refine Wm<|Y0<|AWp.block ?_
 refine AC (λw e=>∃k,k<=L.length/\w=L.length-k/\e=⟨[(0,.ptr 0 0),(2,.fn (209+1000000) [0]),(13,.d (WD L)),(14,.d (eN L.length)),(15,.d (eN k))],[.var 103 [.own 1],.row 5 1 (CA (b++By L.length++(L.take k).flatMap GT)),.pin [(z,.own 0)]]⟩) ?le ⟨0,by omega,rfl,rfl⟩ ?round
 case le=>exact Zkx
 case round=>
  rintro w _ ⟨k,B,rfl,rfl⟩;by_cases O:k<L.length
  .have B:=Dh GT O
   have G:=Qp (L.getD k default) (s _ (BC O)) (b++By L.length++(L.take k).flatMap GT) ZbW;apply Y1;refine Wq Bc ?_;refine Y0<|Ah<|Ct<|Ys<|Ah<|AWp.block<|Y1 ?_;refine Wq (CE (k:=k) rfl (ao rfl) (Aa rfl) (Aa rfl) rfl O) ?_;refine Wq Ca ?_;refine Al ?_;refine Sf ?_;refine Y0<|AWp.region<|Wm ?_;refine Wq AF ?_
   refine AU [0,1] [0] [] (G) Zby rfl rfl ZbB Zbz ZbH Zbx ZbD trivial rfl ?_;rintro _ _ ⟨rfl,rfl⟩;refine ZgU ?_;exact Ac ZbT (by exact HpLe.cons (Ad rfl)<|HpLe.cons (OwLe.row (by rw[Ck GT O,<-Yaf]))<|HpLe.cons (Ak rfl)<|HpLe.nil)
  .exact ZaW
theorem AcU(L:List (RQ×List RTm))(s:FF SqW L):Wl 210 211 (VD L) (Bp Kt L):=Wl.intro λb E=>by
 have g:=Dl (e:=Kt) (l:=L) λx _=>A0n x;have Z:(Bp Kt L).length=(By L.length).length+(L.flatMap Kt).length:=Zkw
 rw[Z]at E;have c:=Dk L.length ZbC b ZbC;refine BD func210 rfl (Ag func210 ZbG ZbG) rfl λy z j=>?_;rw[ntmps210];refine Y1<|Wm<|Wm ?_;refine Wq (Bh rfl (Aa rfl)) ?_;refine Wq (AO (r:=((L.length:Nat):Int)) (ao rfl) (Aa rfl) (Aa rfl) (EW ZbC)) ?_
 refine AU [0,1] [] [] (c) Zby rfl rfl ZbB Zbz ZbH Zbx ZbD trivial rfl ?_;rintro _ _ ⟨rfl,rfl⟩;refine Kr ?_;refine Y0<|Y1<|Wm ?_;refine Wq (Bh rfl (Aa rfl)) ?_;refine Wm<|Y0<|AWp.block ?_
 refine AC (λw e=>∃k,k<=L.length/\w=L.length-k/\e=⟨[(0,.ptr 0 0),(2,.fn (211+1000000) [0]),(13,.d (VD L)),(14,.d (eN L.length)),(15,.d (eN k))],[.var 103 [.own 1],.row 5 1 (CA (b++By L.length++(L.take k).flatMap Kt)),.pin [(z,.own 0)]]⟩) ?le ⟨0,by omega,rfl,rfl⟩ ?round
 case le=>exact Zkx
 case round=>
  rintro w _ ⟨k,B,rfl,rfl⟩;by_cases O:k<L.length
  .have B:=Dh Kt O
   have G:=A3g (L.getD k default) (s _ (BC O)) (b++By L.length++(L.take k).flatMap Kt) ZbW;apply Y1;refine Wq Bc ?_;refine Y0<|Ah<|Ct<|Ys<|Ah<|AWp.block<|Y1 ?_;refine Wq (CE (k:=k) rfl (ao rfl) (Aa rfl) (Aa rfl) rfl O) ?_;refine Wq Ca ?_;refine Al ?_;refine Sf ?_;refine Y0<|AWp.region<|Wm ?_;refine Wq AF ?_
   refine AU [0,1] [0] [] (G) Zby rfl rfl ZbB Zbz ZbH Zbx ZbD trivial rfl ?_;rintro _ _ ⟨rfl,rfl⟩;refine ZgU ?_;exact Ac ZbT (by exact HpLe.cons (Ad rfl)<|HpLe.cons (OwLe.row (by rw[Ck Kt O,<-Yaf]))<|HpLe.cons (Ak rfl)<|HpLe.nil)
  .exact ZaW
theorem AcV(L:List (Nat->RQ))(s:FF (FG QB) L):Wl 212 213 (A0B L) (Bp QP L):=Wl.intro λb E=>by
 have g:=Dl (e:=QP) (l:=L) λx _=>Is Jn x;have Z:(Bp QP L).length=(By L.length).length+(L.flatMap QP).length:=Zkw
 rw[Z]at E;have c:=Dk L.length ZbC b ZbC;refine BD func212 rfl (Ag func212 ZbG ZbG) rfl λy z j=>?_;rw[ntmps212];refine Y1<|Wm<|Wm ?_;refine Wq (Bh rfl (Aa rfl)) ?_;refine Wq (AO (r:=((L.length:Nat):Int)) (ao rfl) (Aa rfl) (Aa rfl) (EW ZbC)) ?_
 refine AU [0,1] [] [] (c) Zby rfl rfl ZbB Zbz ZbH Zbx ZbD trivial rfl ?_;rintro _ _ ⟨rfl,rfl⟩;refine Kr ?_;refine Y0<|Y1<|Wm ?_;refine Wq (Bh rfl (Aa rfl)) ?_;refine Wm<|Y0<|AWp.block ?_
 refine AC (λw e=>∃k,k<=L.length/\w=L.length-k/\e=⟨[(0,.ptr 0 0),(2,.fn (213+1000000) [0]),(13,.d (A0B L)),(14,.d (eN L.length)),(15,.d (eN k))],[.var 103 [.own 1],.row 5 1 (CA (b++By L.length++(L.take k).flatMap QP)),.pin [(z,.own 0)]]⟩) ?le ⟨0,by omega,rfl,rfl⟩ ?round
 case le=>exact Zkx
 case round=>
  rintro w _ ⟨k,B,rfl,rfl⟩;by_cases O:k<L.length
  .have B:=Dh QP O
   have G:=A5H (L.getD k default) (s _ (BC O)) (b++By L.length++(L.take k).flatMap QP) ZbW;apply Y1;refine Wq Bc ?_;refine Y0<|Ah<|Ct<|Ys<|Ah<|AWp.block<|Y1 ?_;refine Wq (CE (k:=k) rfl (ao rfl) (Aa rfl) (Aa rfl) rfl O) ?_;refine Wq Ca ?_;refine Al ?_;refine Sf ?_;refine Y0<|AWp.region<|Wm ?_;refine Wq AF ?_
   refine AU [0,1] [0] [] (G) Zby rfl rfl ZbB Zbz ZbH Zbx ZbD trivial rfl ?_;rintro _ _ ⟨rfl,rfl⟩;refine ZgU ?_;exact Ac ZbT (by exact HpLe.cons (Ad rfl)<|HpLe.cons (OwLe.row (by rw[Ck QP O,<-Yaf]))<|HpLe.cons (Ak rfl)<|HpLe.nil)
  .exact ZaW
theorem Xf{o:Oper}{x:Operand}{e n b N S T l:Nat}{lo J:Option Operand}(Z:o.op=.slice t x lo J none)(E:HO H (vC x)=some (slD T l vk))(L:Tab P t (.slice e) n b z)(G:Tab P e d N S u)(v:N=l)(xd:(∃y,lo=some y/\vC y=.d (ex (.int i a)))\/(lo=none/\a=0))(xi:(∃y,J=some y/\vC y=.d (ex (.int i j)))\/(J=none/\j=vk.length))(I:0<=a)(xb:a<=j)(X:j<=vk.length):Quiet P H o vC (.d (slD T l ((vk.take j.toNat).drop a.toNat))):=by
 refine⟨λbase s V O Y xc R h=>?_⟩;obtain⟨A,c,W,q,B,K⟩:=DV R (h x (by rw[Z];simp[Op.operands])) E;subst v;obtain⟨a,rfl⟩:=YbJ I;obtain⟨j,rfl⟩:=YbJ (Yet I xb);have xj:a<=j:=by omega
 have xh:j<=vk.length:=by omega
 have xm:∃xg,lo.map O=xg/\((xg=some (.int i a))\/(xg=none/\a=0)):=by
  rcases xd with⟨y,rfl,M⟩ | ⟨rfl,hi0⟩
  .exact ZaX
  .exact ZjR
 have xl:∃xe,J.map O=xe/\((xe=some (.int i j))\/(xe=none/\j=vk.length)):=by
  rcases xi with⟨y,rfl,M⟩ | ⟨rfl,hi0⟩
  .exact ZaX
  .exact ZjR
 obtain⟨xg,m,f⟩:=xm;obtain⟨xe,U,w⟩:=xl;have xk:(j:Int)<=c:=by omega
 have xf:(a:Int)<=j:=by omega
 have F:(Instr.sliceBounds true vk.length c xg xe none).run P s.w=.ok (a,j,c) s.w:=by
  rcases f with rfl | ⟨rfl,rfl⟩<;>rcases w with rfl | ⟨rfl,rfl⟩<;>simp[Instr.sliceBounds,Instr.sliceBound,asIntOf,xk,xf,xj,xh,q]
  all_goals first | omega | simp[xj,xh,q] | skip
 have xa:(execOp O o).run P s.w=.ok (.value (.slice (if c=a then A else A.map (·.add (a*N))) (j-a) (c-a))) s.w:=by
  simp only[execOp,Z,m,U,W,YeI,Instr.sliceAt,Sem.run_bind,run_underlying L.und,Result.andThen_ok,Instr.slice,F,G.run_size,Sem.run_pure]
 have r:((vk.take (j:Int).toNat).drop (a:Int).toNat).length=j-a:=ZiI
 refine BW xa ⟨GS.Le.refl s,(if c=a then A else A.map (·.add (a*N))),c-a,by rw[r],by rw[r];omega,by omega,λH=>?_⟩;rw[r]at H;obtain⟨g,p,rfl,Q⟩:=K ZbC;refine⟨g,p+a*N,?_,λk C=>?_⟩
 .rw [Yaj ZbC]
  simp[Addr.add_lit]
 .rw [r]at C
  rw[show(j:Int).toNat=j from rfl,show(a:Int).toNat=a from rfl];rw[UB,Pb ZbC];have:=Q (a+k) ZbC;exact Zjt
theorem Vo{hp:List Ow}{arg:Operand->AV}{dd:Option Tmp}{ty:TypeId}{ps:String}{af:Array Edge}{gd:Option (Nat×Bool)}{x:Operand}{e n b h H T l:Nat}{lo hi:Option Operand}{rows:List (List D)}{κ:IntKind}{i j:Int}(C:HO hp (arg x)=some (slD T l rows))(L:Tab P U (.slice e) n b z)(q:Tab P e d h H u)(v:h=l)(A:(∃y,lo=some y/\arg y=.d (ex (.int κ i)))\/(lo=none/\i=0))(k:(∃y,hi=some y/\arg y=.d (ex (.int κ j)))\/(hi=none/\j=rows.length))(c:0<=i)(S:i<=j)(X:j<=rows.length):Quiet P hp ⟨dd,.slice U x lo hi none,ty,ps,af,gd⟩ arg (.d (slD T l ((rows.take j.toNat).drop i.toNat))):=Xf (o:=⟨dd,.slice U x lo hi none,ty,ps,af,gd⟩) rfl C L q v A k c S X
theorem EO{x:Operand}{v:Value}{n b:Nat}(C:vC x=.d (ex v))(e:Tab P U (.int i) n b u):Quiet P H ⟨vz,.makeInterface U x,t,vF,vG,vM⟩ vC (.d (ex (.iface U v))):=by
 refine⟨λbase s V A B E Z h=>?_⟩;have q:=h x ZcR;rw[C]at q;have W:A x=v:=q;refine BW (v:=.iface U v) ?_ ⟨GS.Le.refl s,rfl⟩;simp[execOp,W,Instr.makeInterface,run_underlying e.und]
theorem A6B(b:List Nat)(n:Nat):(CA b).take n=CA (b.take n):=by simp[CA,Yec]
theorem A6C(b:List Nat)(n:Nat):(CA b).drop n=CA (b.drop n):=by simp[CA,Yeb]
theorem DD{x:Operand}{e n b T:Nat}{l:List Nat}(C:vC x=.d (Eq T l))(L:Tab P U (.slice e) n b z):Quiet P H ⟨vz,.call { callee:=.builtin .len,args:=#[x],argTypes:=#[U] },t,vF,vG,vM⟩ vC (.d (eN l.length)):=Bh (f:=λz:Nat=>[ex (.int .u8 (z:Nat))]) (by rw[C];rfl) L
theorem A74{hp:List Ow}{arg:Operand->AV}{dd:Option Tmp}{ty:TypeId}{ps:String}{af:Array Edge}{gd:Option (Nat×Bool)}{x y:Operand}{e n b A H T k:Nat}{l:List Nat}{κ:IntKind}(C:arg x=.d (Eq T l))(M:arg y=.d (ex (.int κ (k:Nat))))(L:Tab P U (.slice e) n b z)(q:Tab P e d A H u)(v:A=1)(B:k<=l.length):Quiet P hp ⟨dd,.slice U x none (some y) none,ty,ps,af,gd⟩ arg (.d (Eq T (l.take k))):=by
 have h:=Vo (P:=P) (hp:=hp) (arg:=arg) (dd:=dd) (ty:=ty) (ps:=ps) (af:=af) (gd:=gd) (lo:=none) (hi:=some y) (rows:=CA l) (κ:=κ) (i:=0) (j:=(k:Nat)) (by rw[C];rfl) L q v (.inr ⟨rfl,rfl⟩) (.inl ⟨y,rfl,M⟩) ZbC ZbC (by rw[Cg];omega);rw[show((k:Nat):Int).toNat=k from rfl,A6B]at h;exact h
theorem A7a{hp:List Ow}{arg:Operand->AV}{dd:Option Tmp}{ty:TypeId}{ps:String}{af:Array Edge}{gd:Option (Nat×Bool)}{x y:Operand}{e n b A H T k:Nat}{l:List Nat}{κ:IntKind}(C:arg x=.d (Eq T l))(M:arg y=.d (ex (.int κ (k:Nat))))(L:Tab P U (.slice e) n b z)(q:Tab P e d A H u)(v:A=1)(B:k<=l.length):Quiet P hp ⟨dd,.slice U x (some y) none none,ty,ps,af,gd⟩ arg (.d (Eq T (l.drop k))):=by
 have h:=Vo (P:=P) (hp:=hp) (arg:=arg) (dd:=dd) (ty:=ty) (ps:=ps) (af:=af) (gd:=gd) (lo:=some y) (hi:=none) (rows:=CA l) (κ:=κ) (i:=(k:Nat)) (j:=((CA l).length:Nat)) (by rw[C];rfl) L q v (.inl ⟨y,rfl,M⟩) (.inr ⟨rfl,rfl⟩) ZbC (by rw[Cg];omega) ZbC;rw[show((k:Nat):Int).toNat=k from rfl,show(((CA l).length:Nat):Int).toNat=(CA l).length from rfl,YaY,A6C]at h;exact h
theorem ConP.cut{Q S:AV->List Ow->Prop}{M:List PanicEntry}{N:Prop}(h:ConP P vd R H Q M N)(m:∀r G,Q r G->A9A r=true/\(∀(i:Nat) o,(G.take H.length)[i]? = some o->o.below H.length)/\S r (G.take H.length)):ConP P vd R H S M N:=
 ⟨h.1,λs V J q A K C k=>(h.2 s V J q A K C k).mono λe B n=>n.imp (λ⟨v,b,j,I,r,G,L,c,Y,t⟩=>by
  obtain⟨F,E,O⟩:=m r G L
  cases r with
  |d x=>exact⟨v,b,j,I,.d x,_,O,c,Y,t.take E⟩
  |_=>cases F) λh=>h⟩
abbrev rH(T:TypeId)(l:List Nat):List Ow:=[.var 92 [.d (Eq T l)]]
abbrev rCh:List PanicEntry:=[{ v:=.iface 49 (.int .i64 3),recovered:=false }]
structure Byt(l:List Nat):Prop where
 lt:∀z∈l,z<256
 len:l.length<=1000000000
theorem Byt.drop{l:List Nat}(h:Byt l)(k:Nat):Byt (l.drop k):=⟨λz n=>h.lt z (YbZ n),by rw[Ybx];have:=h.len;omega⟩
theorem Sd{l:List Nat}(h:H.take 1=rH t l):∀(i:Nat) o,(H.take 1)[i]? = some o->o.below 1:=λi o J=>by
 rw[h]at J
 match i,J with
 |0,J=>cases J;intro G r;rw[Yax.1 r];rfl
def Rdr{U:Type}(f:FuncId)(d:U->D)(p:Rd U):Prop:=∀(T:TypeId) l,Byt l->ConP prog f [.ptr 0 0] (rH T l) (λr P=>∃x i,p l=some (x,i)/\Byt i/\r=.d (d x)/\P=rH T i) rCh (p l=none)
theorem Rdr.intro{U:Type}{f:FuncId}{d:U->D}{p:Rd U}(h:∀(T:TypeId) l,Byt l->ConP prog f [.ptr 0 0] (rH T l) (λr P=>∃x i,p l=some (x,i)/\Byt i/\r=.d (d x)/\P.take 1=rH T i) rCh (p l=none)):Rdr f d p:=λT l I=>(h T l I).cut λr P ⟨x,i,q,A,K,Q⟩=>by
 subst K;exact⟨rfl,Sd Q,x,i,q,A,rfl,Q⟩
theorem A2w(T:TypeId)(l:List Nat)(I:Byt l)(n:Nat)(g:n<1000):ConP prog 305 [.ptr 0 0,.d (ex (.int .u64 (n:Nat)))] (rH T l) (λr P=>n<=l.length/\r=.d (Eq T (l.take n))/\P=rH T (l.drop n)) rCh (l.length<n):=by
 refine ConP.cut (Q:=λr P=>n<=l.length/\r=.d (Eq T (l.take n))/\P.take 1=rH T (l.drop n)) ?_ λr P ⟨q,A,K⟩=>by
  subst A;exact⟨rfl,Sd K,q,rfl,K⟩
 have o:=I.len;have E:=Cg l;refine Bu func305 rfl (Ag func305 ZbG ZbG) rfl λy z=>?_;rw[ntmps305];refine Y1<|Wa<|Y0<|Ah<|Y1<|Wm<|Wm ?_;refine Wq (BZ (ao rfl)) ?_;refine Wq AB ?_;refine Wq Cm ?_;refine Wq (DD (ao rfl) (Aa rfl)) ?_;refine Wq (AO (r:=((l.length:Nat):Int)) (ao rfl) (Aa rfl) (Aa rfl) (EW ZbC)) ?_;refine Wq Ci ?_;apply Y0
 by_cases h:l.length<n
 .refine Zhj ?_
  refine Du (ao rfl) ?_;exact(by repeat (first | exact AN (h) | apply AH | apply PanQ.block | apply PanQ.loop):PanQ _ _) _
 .refine Go ?_;refine Wq (BZ (ao rfl)) ?_;refine Go ?_;refine Wq (A74 (ao rfl) (ao rfl) (Aa rfl) (Aa rfl) rfl ZbC) ?_;refine Go ?_;refine Wq (BZ (ao rfl)) ?_;refine Go ?_;refine Wq (A7a (ao rfl) (ao rfl) (Aa rfl) (Aa rfl) rfl ZbC) ?_;refine Wq (BZ (ao rfl)) ?_;refine Wq AB ?_;refine Eo (ao rfl) (ao rfl) rfl (Aa rfl) One.sl rfl rfl ?_;refine Go ?_
  refine FinP.ret (RetsA.one rfl) rfl ?_ rfl;exact⟨by omega,rfl,rfl⟩
structure WC(g:Nat)(s s':GS):Prop where
 S:s'.S=s.S
 blk:∀b,b≠g->s'.w.heap[b]? = s.w.heap[b]?
 ty:∃cs fz,s.w.heap[g]? = some (.cells cs 335 fz)/\∀(k:Nat) u,cs[k]? = some u->∃x,u=.int .u32 x
def NW(x:D):Prop:=∀(g:Nat) (s j:GS) (v:Value),WC g s j->x.rel s v->x.rel j v
theorem Abe(u:Value):NW (ex u):=λ_ _ _ _ _ h=>h
theorem A8w(h:n<v.length):Dd v n∈v:=by
 have:Dd v n=v[n]:=by simp[Dd,h]
 rw[this];exact Ybs h
theorem Lies.nwB{b o:Nat}(G:WC n s vq)(h:Lies s b o t [ex (.int .u8 a)]):Lies vq b o t [ex (.int .u8 a)]:=by
 obtain⟨f,L,q,A⟩:=h;obtain⟨K,u,Q,F,I⟩:=A 0 ZbR;have I:u=_:=I
 have E:b≠n:=λe=>by
  subst e;obtain⟨M,N,g,J⟩:=G.ty;rw[q]at g;have:=Yag g;simp only[Obj.cells.injEq]at this;obtain⟨x,C⟩:=J (o+0) u (by rw[<-this.1];exact Q);rw[I]at C;cases C
 refine⟨f,L,(G.blk b E).trans q,λk B=>?_⟩;obtain rfl:k=0:=by simp at B;omega
 exact⟨by rw[G.S];exact K,u,Q,F,I⟩
theorem AcD{b:List Nat}:NW (Eq t b):=λg s j v G ⟨A, c, q, B, K, Q⟩=>⟨A, c, q, B, K, λE=>by
 obtain⟨H,o,F,I⟩:=Q E;refine⟨H,o,F,λk C=>⟨(I k C).1,?_⟩⟩
 obtain⟨z,n⟩:∃z:Nat,(CA b).getD k []=[ex (.int .u8 (z:Nat))]:=by
  have L:k<b.length:=by rw[Cg]at C;exact C
  refine⟨b[k],?_⟩;rw[Yaa,Yab C];simp[CA]
 have J:=(I k C).2;rw[n]at J ⊢;exact J.nwB G⟩
theorem Abd:NW (Fk t [ex (.int .u8 a)]):=λg s j v G ⟨b,o,q,A⟩=>⟨b,o,q,A.nwB G⟩
def wL(l:List Nat):List Value:=l.map λw=>.int .u32 (w:Nat)
structure WRel(base:Nat)(l:List Nat)(s:GS)(v:Value):Prop where
 own:s.w.ownsRow base 335 1 v l.length (wL l)
 sm:BK l
 set:∀b,DR v=some b->∀k,s.S b k
 al:∀b cs fz,DR v=some b->s.w.heap[b]? = some (.cells cs 335 fz)->∀(k:Nat) u,cs[k]? = some u->∃x,u=.int .u32 x
theorem WRel.cases{base:Nat}{l:List Nat}{v:Value}(h:WRel base l s v):(v=.slice none 0 0/\l=[])\/∃g cap B,v=.slice (some ⟨g,0,none⟩) l.length cap/\base<=g/\s.w.heap[g]? = some (.cells B 335 (0,0))/\l.length<=cap/\cap<=maxLen/\B.size=cap/\B.toList.take l.length=wL l:=by
 rcases h.own.2 with⟨W,o⟩ | ⟨g,cap,B,W,o,e3,e4,e5,e6,e7⟩
 .exact .inl ⟨W,YaE o⟩
 .exact .inr ⟨g,cap,B,W,o,e3,e4,e5,by omega,by rwa [Ybz]at e7⟩
theorem WRel.lt{l:List Nat}{v:Value}(h:WRel n l s v){b:Nat}(E:DR v=some b):b<s.w.heap.size/\n<=b/\∃f K,s.w.heap[b]? = some (.cells f 335 K):=by
 rcases h.cases with⟨W,_⟩ | ⟨g,cap,cur,W,e2,e3,_⟩
 .rw [W]at E;cases E
 .rw [W]at E;cases E;exact⟨Bv e3,e2,_,_,e3⟩
theorem WRel.keep{l:List Nat}{s s':GS}{v:Value}(h:WRel n l s v)(E:∀b,DR v=some b->s'.w.heap[b]? = s.w.heap[b]? /\ ∀k,s'.S b k↔s.S b k):WRel n l s' v:=by
 refine⟨⟨h.own.1,?_⟩,h.sm,λb q k=>((E b q).2 k).2 (h.set b q k),λb f K q A=>h.al b f K q ((E b q).1.symm.trans A)⟩;rcases h.own.2 with q | ⟨g,cap,cur,e1,e2,e3,e4⟩
 .exact .inl q
 .exact Zky
def WOV(base:Nat)(v:Value)(l:List Nat):OD:=⟨λs _=>WRel base l s v,λ_ _ b=>DR v=some b,λh E=>(WRel.lt h E).1,λh _ E=>⟨WRel.keep h E,λ_ h=>h⟩⟩
def WOD(base:Nat)(l:List Nat):OD:=⟨λs v=>WRel base l s v,λ_ v b=>DR v=some b,λh E=>(WRel.lt h E).1,λh _ E=>⟨WRel.keep h E,λ_ h=>h⟩⟩
theorem WRel.wD{l:List Nat}{v:Value}(h:WRel n l s v):(Go.Proofs.YtcikkglcoeedlaaGreat.wD l).rel s v:=by
 refine⟨?_,h.sm⟩;rcases h.cases with⟨W,o⟩ | ⟨g,cap,cur,W,o,e3,e4,e5,e6,e7⟩
 .subst o;rw[W];exact slD.nil _ _ _
 .refine ⟨_, cap, by rw [Yap]; exact W, by rw [Yap]; exact e4, by simpa [maxLen] using e5, λc=>⟨g, 0, rfl, λk B=>?_⟩⟩
  rw[Yap]at B;have e:(l.map λx=>[ex (.int .u32 (x:Nat))]).getD k []=[ex (.int .u32 (l[k]:Nat))]:=by simp[B]
  rw[e];refine⟨rfl,cur,(0,0),e3,λj X=>?_⟩;obtain rfl:j=0:=by simp at X;omega
  refine⟨h.set g (by rw[W];rfl) _,.int .u32 (l[k]:Nat),?_,rfl,rfl⟩;have q:(cur.toList.take l.length)[k]? = (wL l)[k]?:=by rw[e7]
  rw[YaK,Yao B]at q;rw[YaH,Ybz,Ybf,<-Ycx,q];simp[wL,B]
theorem WOV.nil(base:Nat)(s:GS):WRel base [] s (.slice none 0 0):=⟨⟨rfl,.inl ⟨rfl,rfl⟩⟩,(λx C=>by cases C),λb E=>(by cases E),λb f K E=>by cases E⟩
theorem A34{s0:An}(xb:GS.LeX s0.mine s0.g s)(V:s.Ok){t ty bytes base:Nat}(L:P.underlying t=some (.slice 335))(w:Tab P 335 d 1 bytes z)(xr:z=.int .u32 0){l:List Nat}(r:WRel base l s u)(xA:s0.g.w.heap.size<=base)(xj:base<=s0.g.w.heap.size)
  (b o c x:Nat) (C:x<4294967296) (xm:s.w.cell? ⟨b,o,none⟩=some (.int .u32 (x:Nat))) (xi:(l.length+1)*bytes<=140737488355328) (xo:l.length+1<=4611686018427387904) :
  ∃(p:Value) (G:GS),(Builtin.append_ #[t,t] ty #[u,.slice (some ⟨b,o,none⟩) 1 c]).run P s.w=.ok p G.w/\GS.LeX s0.mine s0.g G/\G.Ok/\(GS.Le s G\/∃g,DR u=some g/\WC g s G)/\WRel base (l++[x]) G p/\(∀b,DR p=some b->DR u=some b\/s.w.heap.size<=b):=by
 obtain⟨i,J,n,xu,xw⟩:=w.info;subst xw;have xp:z.cells.size=1:=by rw[xr];rfl
 have xJ:∀(m k:Nat) A,(Builtin.zeroCells z.cells m)[k]? = some A->∃x,A=.int .u32 x:=λm k A a=>by
  have a:=Array.mem_of_getElem? a;rw[xr,Builtin.zeroCells]at a;simp[Value.cells]at a;exact⟨0,by grind⟩
 have xN:∀(k:Nat) A,(wL l)[k]? = some A->∃x,A=.int .u32 x:=λk A a=>by
  obtain⟨y,_,M⟩:=YaD.1 (Yaz a);exact⟨_,M.symm⟩
 have xM:∀(k:Nat) A,([.int .u32 ((x:Nat):Int)]:List Value)[k]? = some A->∃x,A=.int .u32 x:=λk A a=>⟨_,Yax.1 (Yaz a)⟩;obtain⟨xc,xq⟩:∃xc:List Value,xc=[.int .u32 (x:Nat)]:=⟨_,rfl⟩;have I:xc.length=1*i.size:=by rw[xq,xu];rfl
 have xB:∀j A,xc[j]? = some A->s.w.cell? ((⟨b,o,none⟩:Addr).add j)=some A:=λj A X=>by
  rw[xq]at X
  match j,X with
  |0,X=>cases X;exact xm
  |j+1,X=>cases X
 have q:∀A∈xc,A.oneCell'=true:=λA a=>by rw[xq]at a;rw[Yax.1 a];rfl
 have xI:wL (l++[x])=wL l++xc:=by rw[xq,wL,Ycg];rfl
 have R:(wL l).length=l.length:=by simp[wL]
 have xx:(l++[x]).length=l.length+1:=by simp
 have xE:BK (l++[x]):=λy M=>by
  rcases YbW.1 M with h | h
  .exact r.sm y h
  .rw [Yax.1 h];exact C
 have xD:s0.g.w.heap.size<=s.w.heap.size:=xb.size;have xz:l.length+1<=maxLen:=Zjn
 have xF:∀xv,xv<l.length+1->base<=s.w.heap.size->∃G:GS,G.w=s.w.drew.alloc (.cells ((wL l).toArray++xc.toArray++Builtin.zeroCells z.cells (grownCap s.w (l.length+1) xv 335-(l.length+1))) 335)/\GS.LeX s0.mine s0.g G/\G.Ok/\GS.Le s G/\WRel base (l++[x]) G (.slice (some ⟨s.w.heap.size,0,none⟩) (l.length+1) (grownCap s.w (l.length+1) xv 335)):=by
  intro xv S xg;obtain⟨arr,xs⟩:∃arr,arr=(wL l).toArray++xc.toArray++Builtin.zeroCells z.cells (grownCap s.w (l.length+1) xv 335-(l.length+1)):=⟨_,rfl⟩;rw[<-xs];have xn:=grownCap_ge s.w (l.length+1) xv 335;have xt:grownCap s.w (l.length+1) xv 335<=maxLen:=grownCap_le_maxLen s.w (l.length+1) xv 335 xz;have Z:Ext s.w (s.w.drew.alloc (.cells arr 335)):=(Ext.refl _).drew.alloc _;have xG:(s.w.drew.alloc (.cells arr 335)).heap[s.w.heap.size]? = some (.cells arr 335 (0,0)):=heap_alloc_new s.w.drew _;have U:(s.w.drew.alloc (.cells arr 335)).heap.size=s.w.heap.size+1:=Yei ..;have xa:=FO (s:=s) Z;refine⟨s.grown (s.w.drew.alloc (.cells arr 335)),rfl,xb.trans xa,xa.ok V,xa,⟨⟨by rw[xx];simp[wL],.inr ⟨s.w.heap.size,_,arr,by rw[xx],xg,xG,by rw[xx];exact xn,xt,?_,?_⟩⟩,xE,λb E k=>?_,λb f fz E q k A a=>?_⟩⟩
  .rw [xs]
   simp only[Array.size_append,Ydh,size_zeroCells,xp,R,I,xu];omega
  .rw [xs,xI]
   simp only[Array.toList_append];have:(wL l++xc).length=(l++[x]).length*1:=by rw[Yac,R,I,xu,xx];omega
   rw[<-this];exact Yex
  .have xe:some s.w.heap.size=some b:=E
   have xe:=Yag xe;subst xe;exact .inr ⟨Yai _,by rw[U];omega⟩
  .have xe:some s.w.heap.size=some b:=E
   have xe:=Yag xe;subst xe;have q:(s.w.drew.alloc (.cells arr 335)).heap[s.w.heap.size]? = _:=q;rw[xG]at q;have:=Yag q;simp only[Obj.cells.injEq]at this;rw[<-this.1,xs]at a;rw[Array.getElem?_append]at a;split at a
   .rw [Array.getElem?_append]at a
    split at a
    .rw [YbH]at a
     exact xN _ A a
    .rw [YbH,xq]at a
     exact xM _ A a
   .exact xJ _ _ A a
 have xg:base<=s.w.heap.size:=by omega
 rcases r.cases with⟨rfl,rfl⟩ | ⟨g,cap,xl,rfl,hbg,hg,hnc,xt,hcs,htake⟩
 .have Y:=run_append_nil (P:=P) s.w t ty 335 i z L J n ⟨b, o, none⟩ 1 c xc I xB ZbC ZbC (by have E:=xi; simp only [Ybg, YaH, YcF] at E ⊢; omega)
  obtain⟨G,F,O,e3,e4,e5⟩:=xF 0 ZbC xg;simp only[Ybg,YaH,Ycy,Array.empty_append,wL,Ycb]at F e5 Y ⊢;exact ZhC
 .have xK:=r.al g xl (0,0) rfl hg
  by_cases xC:l.length+1<=cap
  .have xH:l.length*i.size+xc.length<=xl.size:=by rw [I, hcs, xu];omega
   have Y:=run_append_room (P:=P) s.w t ty 335 i L J g l.length cap xl hg ⟨b,o,none⟩ 1 c xc I xB q xC xH;obtain⟨W,hW⟩:∃W,W=s.w.setRow g (xl.toList.take (l.length*i.size)++xc++xl.toList.drop (l.length*i.size+xc.length)).toArray:=⟨_,rfl⟩;rw[<-hW]at Y;have xk:∀b,b≠g->W.heap[b]? = s.w.heap[b]?:=λb E=>by rw[hW];exact ZjQ
   have xG:W.heap[g]? = some (.cells (xl.toList.take (l.length*i.size)++xc++xl.toList.drop (l.length*i.size+xc.length)).toArray 335 (0,0)):=by rw[hW];exact setRow_heap s.w g xl _ _ _ hg
   have U:W.heap.size=s.w.heap.size:=by rw[hW];simp[World.setRow]
   have xf : GS.Ok ⟨s.S, s.tag, W⟩ := ⟨fun b k E => by show b < W.heap.size; rw [U]; exact V.lt b k E, fun b k ⟨f, fz, E⟩ => by
    have E:W.heap[b]? = _:=E;by_cases e:b=g
    .subst e;exact r.set b rfl k
    .exact V.safe b k ⟨f,fz,(xk b e).symm.trans E⟩⟩
   refine⟨_,⟨s.S,s.tag,W⟩,Y,⟨by show W.os=_;rw[hW];exact xb.os,by show W.tape=_;rw[hW];exact xb.tape,by show W.output=_;rw[hW];exact xb.output,λk B v=>(xk k ZbC).trans (xb.block k B v),⟨by show _<=W.heap.size;omega,xb.chg.up,λH f T fz E=>?_⟩,xb.old,xb.tag,λ_=>xf⟩,xf,.inr ⟨g,rfl,rfl,xk,_,_,hg,xK⟩,⟨⟨by rw[xx];simp[wL],.inr ⟨g,cap,_,by rw[xx],hbg,xG,by rw[xx];exact xC,xt,?_,?_⟩⟩,xE,λb E k=>?_,λb f fz E q k A a=>?_⟩,λb E=>.inl E⟩
   .obtain ⟨xd,xy,F,O⟩:=xb.chg.cell H f T fz E
    have:=Bv E;exact⟨xd,xy,(xk H ZbC).trans F,O⟩
   .simp only[Ydh,Yac,YaO,Ybx,Yek]
    rw[xu]at xH ⊢;omega
   .have K:(l++[x]).length*1=(xl.toList.take (l.length*i.size)++xc).length:=by
     have Q:xl.toList.length=xl.size:=Yek;have N:(xl.toList.take (l.length*i.size)++xc).length=l.length+1:=by rw[Yac,YaO,I,xu];omega
     rw[N,xx,Ybz]
    rw[K];show List.take _ (xl.toList.take (l.length*i.size)++xc++_)=_;rw[Yex,xI,xu,Ybz,htake]
   .have xe:some g=some b:=E
    have xe:=Yag xe;subst xe;exact r.set g rfl k
   .have xe:some g=some b:=E
    have xe:=Yag xe;subst xe;have q:W.heap[g]? = _:=q;rw[xG]at q;have:=Yag q;simp only[Obj.cells.injEq]at this;rw[<-this.1,YbH]at a;have a:=Yaz a;rw[YbW,YbW]at a;rcases a with(a | a) | a
    .obtain ⟨k',xh⟩:=YbO (Ybh a)
     exact Zkz
    .obtain ⟨k',xh⟩:=YbO a
     rw[xq]at xh;exact xM k' A xh
    .obtain ⟨k',xh⟩:=YbO (YbZ a)
     exact Zkz
  .have xL:∀j A,(wL l)[j]? = some A->s.w.cell? ((⟨g,0,none⟩:Addr).add j)=some A:=r.own.cells (g:=g) rfl
   have Y:=run_append_grow (P:=P) s.w t ty 335 i z L J n ⟨g,0,none⟩ l.length cap (wL l) (by rw[R,xu,Ybz]) xL ⟨b,o,none⟩ 1 c xc I xB ZbC ZbC (growslice_fits ZbC xi);obtain⟨G,F,O,e3,e4,e5⟩:=xF cap ZbC xg;exact ZhC
def AV.nw(id:Nat):AV->Prop
 |.d x=>NW x
 |.ptr i _=>i≠id
 |.own i=>i≠id
 |.fn _ J=>id∉J
def Ow.nw(id:Nat):Ow->Prop
 |.dead=>True
 |.var _ cells=>∀G∈cells,G.nw id
 |.row _ _ B=>∀r∈B,∀d∈r,NW d
 |.obj _=>False
 |.pin l=>∀p∈l,p.2.nw id
theorem StI.words{s0:An}{id base:Nat}{l w:List Nat}(h:StI s0 n ⟨vb,H⟩ vl s vh)(xd:H[id]? = some (.obj (WOV base z l)))(hF:∀p∈vb,p.2.nw id)(hM:∀i o,i≠id->H[i]? = some o->o.nw id)(q1:GS.LeX s0.mine s0.g vq)(q2:vq.Ok)(q3:GS.Le s vq\/∃g,DR z=some g/\WC g s vq)(q4:WRel base w vq u)(q5:∀b,DR u=some b->DR z=some b\/s.w.heap.size<=b) :
  StI s0 n ⟨vb,H.set id (.obj (WOD base w))⟩ vl vq (λi=>if i=id then u else vh i):=by
 have R:(H.set id (.obj (WOD base w))).length=H.length:=by simp
 have xj:id<H.length:=Cu xd;have xn:WRel base l s z:=h.hp id _ xd
 have hA:∀m F,m.nw id->AVr H.length vh s m F->AVr H.length (λi=>if i=id then u else vh i) vq m F:=λm F I r=>by
  cases m with
  |d x=>exact q3.elim (λk=>x.st r k.chg) λ⟨g,_,k⟩=>I g s vq F k r
  |ptr i off=>
   have I:i≠id:=I;obtain⟨q,b,A,K⟩:=r;exact⟨q,b,(show(if i=id then u else vh i)=_ by rw[Yaj I];exact A),K⟩
  |own i=>
   have I:i≠id:=I;exact⟨r.1,(show F=(if i=id then u else vh i)by rw[Yaj I];exact r.2)⟩
  |fn f xb=>
   have I:id∉xb:=I;exact⟨r.1,by rw[r.2,YaS λi J=>(Yaj λe=>I ZeN:(if i=id then u else vh i)=vh i)]⟩
 have hB:∀b,b<s.w.heap.size->(∀G fz,s.w.heap[b]? ≠ some (.cells G 335 fz))->vq.w.heap[b]? = s.w.heap[b]? /\ ∀k,vq.S b k↔s.S b k:=λb E xa=>by
  rcases q3 with k | ⟨g,hg,k⟩
  .exact ⟨k.ext.block E,λj=>⟨k.old b j E,k.up b j⟩⟩
  .obtain ⟨G,fz,e,_⟩:=k.ty
   have xr:b≠g:=λe'=>xa G fz (by rw[e'];exact e);exact⟨k.blk b xr,λj=>by rw[k.S]⟩
 have hO:∀i o,i≠id->H[i]? = some o->OwR 0 H.length (λi=>if i=id then u else vh i) vq i o:=λi o J Z=>by
  have I:=hM i o J Z;have Y:=h.hp i o Z
  cases o with
  |dead=>trivial
  |var T cells=>
   obtain⟨b,G,q,A,K,Q,N,a,v⟩:=Y
   obtain⟨W,V⟩:=hB b (Bv K) λxe xq e=>by
    rw[K]at e;have:=Yag e;simp only[Obj.cells.injEq]at this;exact N this.2.1
   refine⟨b,G,(show(if i=id then u else vh i)=_ by rw[Yaj J];exact q),A,W.trans K,Q,N,λk B=>a k ((V k).1 B),λk m B=>?_⟩;obtain⟨F,U,h9,xc⟩:=v k m B;exact⟨F,U,h9,hA m F (I m (Yaz B)) xc⟩
  |row T S c=>
   obtain⟨P,⟨q,A⟩,K,Q,N,a⟩:=Y
   have xk:∀b,DR (vh i)=some b->vq.w.heap[b]? = s.w.heap[b]? /\ ∀k,vq.S b k↔s.S b k:=λb E=>by
    rcases A with⟨W,_⟩ | ⟨g,cap,cur,W,V,e3,e4⟩
    .rw [W]at E;cases E
    .rw [W]at E
     cases E
     exact hB g (Bv e3) λxe xq e=>by
      rw[e3]at e;have:=Yag e;simp only[Obj.cells.injEq]at this;exact K this.2.1
   refine⟨P,⟨q,?_⟩,K,Q,λb E k=>?_,λk B=>⟨(a k B).1,λj X=>?_⟩⟩
   .have xt:(λi=>if i=id then u else vh i) i=vh i:=Yaj J
    rw[xt];rcases A with A | ⟨g,cap,cur,W,V,e3,e4⟩
    .exact .inl A
    .exact .inr ⟨g,cap,cur,W,V,(xk g (by rw[W];rfl)).1.trans e3,e4⟩
   .have E:DR (if i=id then u else vh i)=some b:=E
    rw[Yaj J]at E;exact((xk b E).2 k).trans (N b E k)
   .obtain ⟨F,U,h9,xc⟩:=(a k B).2 j X
    have xp:(c.getD k [])∈c:=by
     exact ZhN
    have xi:j<(c.getD k []).length:=by rw[(a k B).1];exact X
    exact⟨F,U,h9,hA (.d (Dd (c.getD k []) j)) F (I _ xp _ (A8w xi)) xc⟩
  |obj O=>exact I.elim
  |pin l=>exact λp H=>hA p.2 p.1 (I p H) (Y p H)
 have xg:∀i o,(H.set id (.obj (WOD base w)))[i]? = some o->(i=id/\o=.obj (WOD base w))\/(i≠id/\H[i]? = some o):=λi o Z=>by
  rw[YbM]at Z;split at Z
  .rename_i e
   try rw[Yao ZbC]at Z
   exact .inl ⟨e.symm,(Yag Z).symm⟩
  .rename_i e
   exact .inr ⟨λe'=>e e'.symm,Z⟩
 have xm:∀i o b,i≠id->H[i]? = some o->OwB vq (if i=id then u else vh i) o b->OwB s (vh i) o b:=λi o b J Z E=>by
  rw[Yaj J]at E
  cases o with
  |obj O=>exact(hM i _ J Z).elim
  |_=>exact E
 refine⟨q1,q2,λt m L=>?_,h.sz,h.df,λi o Z=>?_,λi j x y xf C M b xl xh=>?_,λi o b Z E=>?_⟩
 .rw [show(⟨vb,H.set id (.obj (WOD base w))⟩:AS).hp.length=H.length from R]
  exact hA m _ (hF (t,m) (Fj L)) (h.fr t m L)
 .rw [show(⟨vb,H.set id (.obj (WOD base w))⟩:AS).hp.length=H.length from R]
  rcases xg i o Z with⟨rfl,rfl⟩ | ⟨J,Z⟩
  .show WRel base w vq (if i=i then u else vh i)
   rw[Yao rfl];exact q4
  .exact hO i o J Z
 .rcases xg i x C with⟨rfl,rfl⟩ | ⟨J,hx'⟩<;>rcases xg j y M with⟨rfl,rfl⟩ | ⟨X,hy'⟩
  .exact xf rfl
  .have xl:DR (if i=i then u else vh i)=some b:=xl
   rw[Yao rfl]at xl;have xo:=xm j y b X hy' xh;rcases q5 b xl with q | q
   .exact h.sep i j _ y xf xd hy' b q xo
   .have:=(h.hp j y hy').blk_lt0 xo
    omega
  .have xh:DR (if j=j then u else vh j)=some b:=xh
   rw[Yao rfl]at xh;have xo:=xm i x b J hx' xl;rcases q5 b xh with q | q
   .exact h.sep i j x _ xf hx' xd b xo q
   .have:=(h.hp i x hx').blk_lt0 xo
    omega
  .exact h.sep i j x y xf hx' hy' b (xm i x b J hx' xl) (xm j y b X hy' xh)
 .rcases xg i o Z with⟨rfl,rfl⟩ | ⟨J,Z⟩
  .have E:DR (if i=i then u else vh i)=some b:=E
   rw[Yao rfl]at E;rcases q5 b E with q | q
   .exact h.own i _ b xd q
   .exact .inr (Yau h.le.size q)
  .exact h.own i o b Z (xm i o b J Z E)
theorem A4V{s0:An}{o:Oper}{id base m bytes b0 x:Nat}{l:List Nat}{T w:Operand}(F:o.op=.call { callee:=.builtin .append,args:=#[T,w],argTypes:=#[t,t] })(h:StI s0 n ⟨vb,H⟩ vl s vh)(y:H[id]? = some (.obj (WOV base u l)))(hF:∀p∈vb,p.2.nw id)(a:∀i o,i≠id->H[i]? = some o->o.nw id)(xb:s0.g.w.heap.size<=base)(r:base<=s0.g.w.heap.size)(C:vl.eval T=u)(M:(slD U 1 [[ex (.int .u32 (x:Nat))]]).rel s (vl.eval w))(W:x<4294967296)(L:Tab P t (.slice 335) m b0 z)(e:Tab P 335 d 1 bytes um)(k:um=.int .u32 0)(O:(l.length+1)*bytes<=140737488355328)(Z:l.length+1<=4611686018427387904) :
  RegG.OpStep P o vl.eval s λq j=>∃R,StI s0 n ⟨vb,H.set id (.obj (WOD base (l++[x])))⟩ vl j R/\AVr H.length R j (.own id) q:=by
 obtain⟨A,c,B,g,E,S⟩:=M;obtain⟨b,p,rfl,G⟩:=S ZbR;obtain⟨_,v⟩:=G 0 ZbR;obtain⟨q,K,_,Q⟩:=v.cell (k:=0) ZbR;have Q:q=_:=Q;subst Q;obtain⟨X,j,Y,I,J,N,V,f⟩:=A34 (P:=P) (t:=t) (ty:=o.type) h.le h.ok L.und e k (h.hp id _ y) xb r b p c x W Zeh O Z
 have xa:(execOp vl.eval o).run P s.w=.ok (.value X) j.w:=by
  simp only[execOp,F,resolve,invoke,builtin,Sem.run_bind,Sem.run_pure,Result.andThen_ok,Yco,Ybb,Ycb,C,B];simp only[Yat,Ybg,YaH]at Y ⊢;rw[Y];rfl
 refine Jp xa j rfl ⟨_,h.words y hF a I J N V f,Cu y,(Yao rfl).symm⟩
def AllNw(id c:Nat)(V:List Nat):Nat->List AV->Prop
 |_,[]=>True
 |i,r::I=>(Nat.beq i c=true\/V.contains i=true\/r.nw id)/\AllNw id c V (i+1) I
theorem AllNw.nil{id c i:Nat}{V:List Nat}:AllNw id c V i []:=trivial
theorem AllNw.c{id c i:Nat}{V:List Nat}{r:AV}(h:Nat.beq i c=true)(a:AllNw id c V (i+1) R):AllNw id c V i (r::R):=⟨.inl h,a⟩
theorem AllNw.l{id c i:Nat}{V:List Nat}{r:AV}(h:V.contains i=true)(a:AllNw id c V (i+1) R):AllNw id c V i (r::R):=⟨.inr (.inl h),a⟩
theorem AllNw.x{id c i:Nat}{V:List Nat}{v:Value}(a:AllNw id c V (i+1) R):AllNw id c V i (.d (ex v)::R):=⟨.inr (.inr (Abe v)),a⟩
theorem AllNw.b{id c i:Nat}{V:List Nat}{T:TypeId}{l:List Nat}(a:AllNw id c V (i+1) R):AllNw id c V i (.d (Eq T l)::R):=⟨.inr (.inr AcD),a⟩
theorem AllNw.e{id c i:Nat}{V:List Nat}{T:TypeId}{z:Int}(a:AllNw id c V (i+1) R):AllNw id c V i (.d (Fk T [ex (.int .u8 z)])::R):=⟨.inr (.inr Abd),a⟩
theorem AllNw.p{id c i j off:Nat}{V:List Nat}(h:Nat.beq j id=false)(a:AllNw id c V (i+1) R):AllNw id c V i (.ptr j off::R):=⟨.inr (.inr (YaJ h)),a⟩
theorem AllNw.o{id c i j:Nat}{V:List Nat}(h:Nat.beq j id=false)(a:AllNw id c V (i+1) R):AllNw id c V i (.own j::R):=⟨.inr (.inr (YaJ h)),a⟩
theorem AllNw.get{id c:Nat}{V:List Nat}:∀{B:List AV} {j:Nat},AllNw id c V j B->∀(i:Nat) r,B[i]? = some r->j+i≠c->j+i∉V->r.nw id
 |[],_,_,_,_,h,_,_=>by cases h
 |x::B,j,⟨q,_⟩,0,r,h,G,I=>by
  cases h;rcases q with q | q | q
  .exact absurd (Yan q) G
  .exact absurd Zdv I
  .exact q
 |x::B,j,⟨_,A⟩,i+1,r,h,G,I=>AllNw.get A i r Zdj Zfd (by rw[YbR,Yde 1];exact I)
def MemNw(id:Nat):Nat->List Ow->Prop
 |_,[]=>True
 |i,o::F=>(Nat.beq i id=true\/o.nw id)/\MemNw id (i+1) F
theorem MemNw.nil{id i:Nat}:MemNw id i []:=trivial
theorem A94{id i:Nat}(h:Nat.beq i id=true)(a:MemNw id (i+1) H):MemNw id i (vs::H):=⟨.inl h,a⟩
theorem A93{id i T:Nat}(h:AllNw id R.length [] 0 R)(a:MemNw id (i+1) H):MemNw id i (.var T R::H):=⟨.inr λG r=>by
 obtain⟨k,B⟩:=YbO r;have:=(Yae.1 B).1;exact h.get k G B ZbC ZbR,a⟩
theorem MemNw.p{id i:Nat}{l:List (Value×AV)}(h:AllNw id l.length [] 0 (l.map (·.2)))(a:MemNw id (i+1) H):MemNw id i (.pin l::H):=⟨.inr λp P=>by
 obtain⟨k,B⟩:=YbO P;have:=(Yae.1 B).1;exact h.get k p.2 (by rw[Yav,B];rfl) ZbC ZbR,a⟩
theorem MemNw.get{id:Nat}:∀{F:List Ow} {j:Nat},MemNw id j F->∀(i:Nat) o,F[i]? = some o->j+i≠id->o.nw id
 |[],_,_,_,_,h,_=>by cases h
 |x::I,j,⟨q,_⟩,0,r,h,G=>by
  cases h;exact q.elim (λq=>absurd (Yan q) G) λh=>h
 |x::I,j,⟨_,A⟩,i+1,r,h,G=>MemNw.get A i r Zdj Zfd
theorem DTurn.words{s0:An}{id base m bytes f x c:Nat}{l:List Nat}{b w:Operand}{N:List (Nat×Nat)}{ty:TypeId}(y:H[id]? = some (.obj (WOV base u l)))
  (C:DN ⟨vb,EY H id (.obj (WOV base u l)) (.obj (WOD base (l++[x]))) false⟩ (R.map HR.av) N b=.d (ex u)) (M:DN ⟨vb,EY H id (.obj (WOV base u l)) (.obj (WOD base (l++[x]))) false⟩ (R.map HR.av) N w=.d (slD U 1 [[ex (.int .u32 (x:Nat))]]))
  (L:Tab P t (.slice 335) m f z) (e:Tab P 335 d 1 bytes um) (Z:um=.int .u32 0) (B:AllNw id c g 0 R) (E:AllNw id vb.length [] 0 (vb.map (·.2))) (Q:MemNw id 0 H) (r:s0.g.w.heap.size=base) (W:x<4294967296) (X:(l.length+1)*bytes<=140737488355328) (Y:l.length+1<=4611686018427387904) :
  DTurn P s0 n vb H id (.obj (WOV base u l)) (.obj (WOD base (l++[x]))) R g c N ⟨vz,.call { callee:=.builtin .append,args:=#[b,w],argTypes:=#[t,t] },ty,vF,vG,vM⟩ (.own id):=λF hF s V a I j=>by
 have xa:EY H id (.obj (WOV base u l)) (.obj (WOD base (l++[x]))) false=H:=by
  unfold EY;apply YbX;intro i;rw[YbM];split
  .rename_i h
   subst h;rw[y]
   try rw[Yao (Cu y)]
   rfl
  .rfl
 have v:=j b Zdc;have T:=j w Zdc;rw[C]at v;rw[M]at T;rw[xa]at I
 have:=A4V (P:=P) (o:=⟨vz,.call { callee:=.builtin .append,args:=#[b,w],argTypes:=#[t,t] },ty,vF,vG,vM⟩) rfl I y (λp O=>by
  rcases hF p O with⟨i,q,A,K⟩ | h
  .exact B.get i p.2 K ZbC (by rw[YaH];exact A)
  .obtain ⟨k,S⟩:=YbO h
   have:=(Yae.1 S).1;exact E.get k p.2 (by rw[Yav,S];rfl) ZbC ZbR) (λi o J G=>Q.get i o G ZbC) ZbC ZbC (exD v) T W L e Z X Y
 exact this
theorem A22{s0:An}(base:Nat)(q:Gp H (.obj (WOV base (.slice none 0 0) []))=some vA)(k:AWp P s0 n vp vm ⟨vb,vA⟩):AWp P s0 n vp vm ⟨vb,H⟩:=by
 rw[Fi q]at k;refine⟨λa w ⟨s,V,c,u⟩=>?_⟩;have:=u.new (GS.Le.refl s) (dst:=none) (v:=undef) (u:=undef) (r:=.d Cs) (ow:=.obj (WOV base (.slice none 0 0) [])) (λd A=>by cases A) trivial (WOV.nil base s) (λb E=>by cases E);exact k.run a w ⟨s,_,c,this⟩
theorem A4I{s0:An}(id base:Nat)(l:List Nat)(y:H[id]? = some (.obj (WOD base l)))(k:∀v,AWp P s0 n vp vm ⟨vb.map λp=>(p.1,down id (ex v) p.2),(H.map (Ow.mapA (down id (ex v)))).set id (.obj (WOV base v l))⟩):AWp P s0 n vp vm ⟨vb,H⟩:=by
 refine⟨λa w ⟨s,V,c,u⟩=>(k (V id)).run a w ⟨s,V,c,?_⟩⟩
 exact u.upd (s':=s) u.le u.ok (GS.Chg.refl s) (id:=id) (o':=.obj (WOV base (V id) l)) (ρ':=V) (f:=down id (ex (V id))) y (λb _ _=>⟨rfl,λ_=>Ydt⟩) (λ_ _=>rfl) (show WRel base l s (V id)from u.hp id _ y) (λb E=>.inl E) λG v r=>ZaY
theorem AVle.words{m id base:Nat}{l:List Nat}(y:H[id]? = some (.obj (WOV base z l))):AVle H m (.d (ex z)) (.d (wD l)):=λb V s u n Q=>by
 have Q:u=z:=Q;rw[Q];exact WRel.wD (n id _ y)
theorem A91{i base:Nat}{l:List Nat}(h:H[i]? = some (.obj (WOD base l))):One H (.own i):=λb V s v n ⟨_,r⟩=>by
 have q:WRel base l s (V i):=n i _ h;rcases q.cases with⟨W,_⟩ | ⟨g,cap,cur,W,_⟩<;>rw[r,W]<;>rfl
end
