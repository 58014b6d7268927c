/- Part 23. No condition. -/
import Derived.Laws.BytesString
import Derived.Laws.Cells
import Derived.Laws.Strings
import Derived.Test.YtcikkglcoeedlaaGreatDf18
import Derived.Test.YtcikkglcoeedlaaGreatDf19
import Derived.Test.YtcikkglcoeedlaaGreatDf20
set_option linter.unusedSimpArgs false
set_option linter.unusedVariables false
set_option maxRecDepth 100000
namespace Go.Proofs.YtcikkglcoeedlaaGreat
open _root_.Go.Proofs.Tryz
variable{vy xf:AV->List Ow->Prop}{vH:Array Edge}{vs:Array TypeId}{vp:Code}{r vx:D}{vO:Func}{ve:FuncId}{s:GS}{i:IntKind}{vm:List (List D)}{R:List AV}{v vn:List D}{l h vo:List Nat}{vN:List Operand}{H vA:List Ow}{n b T m c k g:Nat}{uT:Nat->List D}{x y:Operand}{vz:Operand->AV}{vQ:Option (Nat×Bool)}{vB:Option Tmp}{vt uE:Ow}{P:Program}{vG:String}{e:Type}{d:TypeDesc}{t U:TypeId}{z u uk:Value}
section
open Go.RowKit
def CR(b:List Nat):List (List D):=b.map λz=>[ex (.int .u8 (z:Nat))]
def Hf(T:TypeId)(b:List Nat):D:=slD T 1 (CR b)
def byS(b:List Nat):ByteArray:=(b.map λz:Nat=>(z:Int)).foldl (λr n=>r.push (UInt8.ofNat n.toNat)) ByteArray.empty
def TD(b:List Nat):D:=ex (.string (byS b))
theorem Dc(b:List Nat):(CR b).length=b.length:=by simp[CR]
theorem A64{k:Nat}(h:k<l.length):(CR l).getD k []=[ex (.int .u8 ((l.getD k 0:Nat):Int))]:=by
 simp[CR,h]
theorem IP(b c:List Nat):CR (b++c)=CR b++CR c:=by simp[CR]
theorem YM:∀(b:List Nat) (r:ByteArray),((b.map λz:Nat=>(z:Int)).foldl (λr n=>r.push (UInt8.ofNat n.toNat)) r).data=r.data++(b.map UInt8.ofNat).toArray
 |[],r=>by simp
 |z::b,r=>by
  rw[Ybc,Ydw,YM b];simp
theorem YL(b:List Nat):(byS b).toList=b.map UInt8.ofNat:=by
 rw[ByteArray.toList_eq,byS,YM];simp
theorem A4y:∀{b c:List Nat},(∀z∈b,z<256)->(∀z∈c,z<256)->b.map UInt8.ofNat=c.map UInt8.ofNat->b=c
 |[],[],_,_,_=>rfl
 |[],_::_,_,_,h=>by simp at h
 |_::_,[],_,_,h=>by simp at h
 |z::b,y::c,E,F,h=>by
  simp only[Ybc,List.cons.injEq]at h;have q:=congrArg UInt8.toNat h.1;rw[UInt8.toNat_ofNat',UInt8.toNat_ofNat',YaS (E z Ybp),YaS (F y Ybp)]at q;rw[q,A4y (λx C=>E x (Ybo _ C)) (λx C=>F x (Ybo _ C)) h.2]
theorem A2s(E:∀z∈l,z<256)(F:∀z∈h,z<256):((byS l).toList==(byS h).toList)=decide (l=h):=by
 rw[YL,YL];by_cases q:l=h
 .subst q;simp
 .rw [Yad q]
  exact beq_eq_false_iff_ne.2 λe=>q (A4y E F e)
theorem A85(w:World)(l:List Nat)(A:Option Addr)(c:Nat)(Y:0<(CR l).length->∃b o,A=some ⟨b,o,none⟩/\(∀k,k<(CR l).length->((CR l).getD k []).length=1/\Lies s b (o+k*1) n ((CR l).getD k [])))(C:w=s.w):(Conv.bytesToString (.slice A l.length c)).run P w=.ok (.string (byS l)) w:=by
 subst C;by_cases d:0<l.length
 .obtain ⟨g, o, rfl, q⟩:=Y (by rw [Dc]; exact d)
  refine run_bytesToString s.w ⟨g,o,none⟩ l.length c (l.map λz:Nat=>(z:Int)) ?_
  have:=run_loadCells (P:=P) (w:=s.w) ⟨g,o,none⟩ l.length (λj=>.int .u8 ((l.getD j 0:Nat):Int)) λj W=>by
   obtain⟨-,B⟩:=q j (by rw[Dc];exact W);rw[A64 W]at B;obtain⟨u,f,-,E⟩:=B.cell (k:=0) ZbV;have E:u=.int .u8 ((l.getD j 0:Nat):Int):=E;rw[E]at f
   have F:(⟨g,o,none⟩:Addr).add j=⟨g,o+j,none⟩:=by
    unfold Addr.add;split
    .rename_i d;subst d;rfl
    .rfl
   rw[F];simpa using f
  rw[this];congr 1;apply Array.ext';apply Ycd;intro j;simp;by_cases W:j<l.length
  .simp [W]
  .simp [W]
 .obtain rfl:l=[]:=YaF ZbG
  have y:∀A c,(Conv.bytesToString (.slice A 0 c)).run P s.w=.ok (.string ByteArray.empty) s.w:=λA c=>by
   cases A with
   |none=>rfl
   |some a=>exact run_bytesToString s.w a 0 c [] rfl
  exact y A c
section
variable {P:Program} {hp:List Ow} {arg:Operand->AV} {dd:Option Tmp} {ty:TypeId} {ps:String} {af:Array Edge} {gd:Option (Nat×Bool)}
theorem EO{S T E n b g G y M N:Nat}(C:HV hp (arg x)=some (Hf N l))(p:Tab P S (.slice E) n b z)(Q:Tab P E (.int .u8) y M uk)(J:Tab P T .string g G u):Quiet P hp ⟨dd,.convert S T x,ty,ps,af,gd⟩ arg (.d (TD l)):=by
 refine⟨λbase s X i I L Z h=>?_⟩;have q:=Ex Z (h x ZcW) C;obtain⟨A,c,F,B,K,Y⟩:=q;rw[Dc]at F B;refine Cd (v:=.string (byS l)) ?_ ⟨GS.Le.refl s,rfl⟩
 have key:(convert S T (i x)).run P s.w=.ok (.string (byS l)) s.w:=by
  rw[F,run_convert_bytes_string s.w S T E A l.length c p.und Q.und J.und];exact A85 s.w l A c Y rfl
 simp only[execOp,Sem.run_bind,key,Result.andThen_ok,Sem.run_pure]
theorem JZ{T U:TypeId}{b c:List Nat}(C:arg x=.d (TD b))(N:arg y=.d (TD c))(E:∀z∈b,z<256)(F:∀z∈c,z<256):Quiet P hp ⟨dd,.binOp .eql T x y U,ty,ps,af,gd⟩ arg (.d (ex (.bool (decide (b=c))))):=
 CM rfl C N λw=>by
  have:=A2s E F;simp only[eqGuard,binOp,Op.stringOp,this];rfl
theorem Zm{T U:TypeId}{b c:List Nat}(C:arg x=.d (TD b))(N:arg y=.d (TD c))(E:∀z∈b,z<256)(F:∀z∈c,z<256):Quiet P hp ⟨dd,.binOp .neq T x y U,ty,ps,af,gd⟩ arg (.d (ex (.bool (!decide (b=c))))):=
 CM rfl C N λw=>by
  have:=A2s E F;simp only[eqGuard,binOp,Op.stringOp,this];rfl
end
def GK(c:Nat->List D):List D:=c 0++(c 1++(c 2++(c 3++(c 4++(c 5++(c 6++c 7))))))
theorem Ew{c:Nat->List D}(h:∀i,(c i).length=n):(GK c).length=8*n:=by
 simp only[GK,Yaa,h];omega
theorem VJ(h:∀b,(uT b).length=n)(J:b<8)(k:T<n):(GK uT)[b*n+T]? = (uT b)[T]?:=by
 unfold GK
 match b,J with
 |0,_=>rw[Yav Zcr];exact Zhe
 |1,_=>rw[Yal Zcr,h,Yav Zcr];exact Zhe
 |2,_=>rw[Yal Zcr,h,Yal Zcr,h,Yav Zcr];exact Zhe
 |3,_=>rw[Yal Zcr,h,Yal Zcr,h,Yal Zcr,h,Yav Zcr];exact Zhe
 |4,_=>rw[Yal Zcr,h,Yal Zcr,h,Yal Zcr,h,Yal Zcr,h,Yav Zcr];exact Zhe
 |5,_=>rw[Yal Zcr,h,Yal Zcr,h,Yal Zcr,h,Yal Zcr,h,Yal Zcr,h,Yav Zcr];exact Zhe
 |6,_=>rw[Yal Zcr,h,Yal Zcr,h,Yal Zcr,h,Yal Zcr,h,Yal Zcr,h,Yal Zcr,h,Yav Zcr];exact Zhe
 |7,_=>rw[Yal Zcr,h,Yal Zcr,h,Yal Zcr,h,Yal Zcr,h,Yal Zcr,h,Yal Zcr,h,Yal Zcr,h];exact Zhe
theorem Dm{c:Nat->List D}(h:∀b,(c b).length=n)(J:b<8):PartAt (GK c) (b*n) n (c b):=by
 have x:b*n+n<=8*n:=ZiS
 refine⟨by rw[Ew h];omega,?_⟩;apply Ycd;intro q;rw[YaK];split
 .rename_i k
  rw[YbO];exact VJ h J k
 .rename_i k
  rw[YbE Zcr]
theorem A3B(h:∀b,(uT b).length=n)(r:v.length=n)(J:b<8):SetAt (GK uT) (b*n) v (GK (ZS uT b v)):=by
 have S:∀j,(ZS uT b v j).length=n:=λj=>by unfold ZS;split;exact r;exact h j
 have x:b*n+n<=8*n:=ZiS
 refine⟨by rw[Ew h];omega,?_⟩;apply Ycd;intro q;by_cases k:q<8*n
 .have E:0<n:=by rcases Yax n with e | e; subst e; omega; exact e
  have C:q=q/n*n+q%n:=by have:=YcY q n;rw[YaN]at this;omega
  have O:q/n<8:=by rw[YdK E];exact k
  have s:q%n<n:=YaV _ E
  have y:(GK (ZS uT b v))[q]? = (ZS uT b v (q/n))[q%n]?:=by
   have:=VJ S O s;rwa [<-C]at this
  have F:(GK uT)[q]? = (uT (q/n))[q%n]?:=by
   have:=VJ h O s;rwa [<-C]at this
  rw[y];unfold Ue;have L:((GK uT).take (b*n)).length=b*n:=by rw[YaO,Ew h];omega
  by_cases A:q<b*n
  .have:q/n≠b:=λe=>by rw [e] at C;omega
   rw[Yav ZbG,YaK,Yan A,F,ZS,Yai this]
  .rw [Yal ZbG, L]
   by_cases B:q<b*n+n
   .have Y:q/n=b:=by
     apply Nat.div_eq_of_lt_le
     .omega
     .rw [YcZ];omega
    have G:q-b*n=q%n:=by rw[Y]at C;omega
    rw[Yav ZbG,ZS,Yan Y,G]
   .have:q/n≠b:=λe=>by rw [e] at C;omega
    rw[Yal ZbG,YbO,r,ZS,Yai this,<-F];exact Zhe
 .rw [YbE (by rw[Iw (by rw[Ew h];omega),Ew h];omega),YbE (by rw[Ew S];omega)]
def Hl(q:RQ):List D:=A54 q.b q.l q.b' q.l'
def Ic(L:List (List RTm)):D:=slD 28 1 (L.map λp=>[Kc p])
def Tu(L:List (List (List RTm))):D:=slD 24 1 (L.map λp=>[Ic p])
def GY(L:List RQ):D:=slD 111 4 (L.map Hl)
def Jk(a:RQ×RQ):List D:=Hl a.1++Hl a.2
def VS(L:List (RQ×RQ)):D:=slD 129 8 (L.map Jk)
def Dv(f:Nat->RQ×RQ):List D:=GK λi=>Jk (f i)
def FX(L:List (Nat->RQ×RQ)):D:=slD 131 64 (L.map Dv)
def Mq(f:Nat->RQ):List D:=GK λi=>Hl (f i)
def A0c(L:List (Nat->RQ)):D:=slD 187 32 (L.map Mq)
def Jv(s:RQ×List RTm):List D:=Hl s.1++[Kc s.2]
def Vk(L:List (RQ×List RTm)):D:=slD 184 5 (L.map Jv)
def Nw(L:List Int):D:=slD 3 1 (L.map λz=>[ex (.int .i64 z)])
def Ec(k:Cor):List D:=[ex (.int .i64 k.n),Ic k.e,Ic k.f]
def ED(c:Clm):List D:=[ex (.int .i64 c.kind),Kc c.p,ex (.int .i64 c.n),ex (.int .i64 c.d),ex (.int .i64 c.r),Du c.o,Ic c.l,Nw c.s,FX c.b]
def up8(f:Nat->List RQ):List D:=oct λi=>GY (f i)
def RE(r:Rsl):List D:=CE r.l++(GY r.q::up8 r.r)
def DE(e:Crt):List D:=[ex (.int .i64 e.n),Ic e.cof,Ic e.g,Du e.o,Tu e.c,Tu e.q,Tu e.s]++(RE e.r++[VS e.a,Vk e.sq,A0c e.x,FX e.b])
def Eb(f:Fct):List D:=Ec f.k++(ED f.c++DE f.e)
def RelL(s:GS)(S:List D)(J:List Value):Prop:=J.length=S.length/\∀k,k<S.length->(DM S k).rel s (J.getD k undef)
theorem RelL.app{x y:List Value}(h:RelL s v x)(k:RelL s vn y):RelL s (v++vn) (x++y):=by
 refine⟨by rw[Yaa,Yaa,h.1,k.1],λi J=>?_⟩;rw[Yaa]at J;unfold DM;rw[Yab,Yab];rcases YaD i v.length with q | q
 .rw [Yav q, Yav (by rw [h.1]; exact q), <-Yab, <-Yab]
  exact h.2 i q
 .rw [Yal q, Yal (by rw [h.1]; exact q), <-Yab, <-Yab, h.1]
  exact k.2 _ ZbG
def fvD(f:FuncId)(ds C:List D):D:=⟨λs v=>∃t G:List Value,v=.func (.func f) t.toArray G.toArray/\RelL s ds t/\RelL s C G,
 λ⟨t,G,q,A,K⟩ F=>⟨t,G,q,⟨A.1,λk B=>(DM ds k).st (A.2 k B) F⟩,⟨K.1,λk B=>(DM C k).st (K.2 k B) F⟩⟩⟩
def FnAbs(P:Program)(F:D)(B:List D)(r:D):Prop:=∃q S f,D.le F (fvD q S f)/\Abs P q (S++B++f) r
theorem FnAbs.ex(h:Abs P ve v r):FnAbs P (ex (.func (.func ve) #[] #[])) v r:=⟨ve,[],[],λs q A=>⟨[],[],A,⟨rfl,λk B=>absurd B ZbV⟩,⟨rfl,λk B=>absurd B ZbV⟩⟩,by simpa using h⟩
theorem Lz{ds f B:List D}(h:Abs P ve (ds++B++f) r):FnAbs P (fvD ve ds f) B r:=⟨ve,ds,f,D.le.refl _,h⟩
section
variable {P:Program} {hp:List Ow} {arg:Operand->AV} {dd:Option Tmp} {ty:TypeId} {ps:String} {af:Array Edge} {gd:Option (Nat×Bool)}
theorem Dl{F:D}(p:arg x=.d F)(G:FnAbs P F v vx)(l:ArgsLe hp arg vN v):Quiet P hp ⟨dd,.call { callee:=.value x,args:=vN.toArray,argTypes:=vs },ty,ps,af,gd⟩ arg (.d vx):=by
 obtain⟨W,S,f,k,c⟩:=G;refine⟨λbase s X i L z O h=>?_⟩;have A:=h x Zde;rw[p]at A;obtain⟨t,d,b,B,K⟩:=k s _ A;obtain⟨Y,n⟩:=ArgsLe.rel (ev:=i) O l λq C=>h q (by simp[Op.operands,Call.operands,C]);have J:RelL s v (vN.map i):=⟨by simpa using Y,n⟩;have N:=(B.app J).app K;have y:=c.2 s (t++vN.map i++d) L N.1 N.2;unfold RegG.OpStep
 have Q:(execOp i ⟨dd,.call { callee:=.value x,args:=vN.toArray,argTypes:=vs },ty,ps,af,gd⟩).run P s.w=.ok (.enter W (t++vN.map i++d).toArray) s.w:=by
  simp[execOp,resolve,b,Deferred.ofValue,invoke,c.1]
 rw[Q];exact y.mono λe M ⟨E,a,j,Z,I,V⟩=>⟨E,a,j,Z,I,V⟩
theorem Lu{t f:List Operand}{ds o:List D}(q:ArgsLe hp arg t ds)(A:ArgsLe hp arg f o):Quiet P hp ⟨dd,.makeFunc (.func ve) t.toArray f.toArray,ty,ps,af,gd⟩ arg (.d (fvD ve ds o)):=by
 refine⟨λbase s X i E z Z h=>?_⟩;obtain⟨K,Y⟩:=ArgsLe.rel (ev:=i) Z q λx C=>h x (by simp[Op.operands,C]);obtain⟨n,B⟩:=ArgsLe.rel (ev:=i) Z A λx C=>h x (by simp[Op.operands,C]);refine Cd (v:=.func (.func ve) (t.map i).toArray (f.map i).toArray) (by simp[execOp,Instr.makeFunc]) ⟨GS.Le.refl s,_,_,rfl,⟨by simpa using K,Y⟩,⟨by simpa using n,B⟩⟩
theorem A1b{e n b J T len:Nat}(C:arg x=.d (Fg T v))(L:Tab P t (.array len e) n b z)(a:Tab P e d 1 J u)(I:PM len v=some vn)(F:len<=1000):Quiet P hp ⟨dd,.slice t x none none none,ty,ps,af,gd⟩ arg (.d (slD T 1 (vn.map λy=>[y]))):=by
 obtain⟨l,G⟩:=Nh I;have N:vn.length=len:=by rw[l,YaO];omega
 subst N;refine⟨λbase s X i M O Z h=>?_⟩;have q:=h x ZcW;rw[C]at q;obtain⟨g,p,E,K⟩:=q;replace K:=K.take vn.length;rw[<-l]at K;obtain⟨f,Q,A,K⟩:=K;have E:i x=.pointer (some ⟨g,p,none⟩):=E;refine Cd (v:=.slice (some ⟨g,p,none⟩) vn.length vn.length) ?_ ⟨GS.Le.refl s,?_⟩
 .simp [execOp,Instr.sliceAt,E,run_underlying L.und,Instr.sureAddr,Instr.sliceBounds,a.run_size,Addr.add_lit]
 .refine ⟨some ⟨g, p, none⟩, vn.length, by rw [Yap], by rw [Yap]; exact Yah _, by omega, λ_=>⟨g, p, rfl, λk B=>?_⟩⟩
  rw[Yap]at B;have G:(vn.map λy=>[y]).getD k []=[DM vn k]:=by simp[DM,B]
  rw[G];refine⟨rfl,f,Q,A,λj W=>?_⟩;have W:j<1:=W;obtain rfl:j=0:=by omega
  have:=K k B;rw[YbF,Ybi];exact this
end
section
variable {fr:List (Nat×AV)} {hp hp':List Ow}
theorem A8z(id q:Nat)(L:hp[id]? = some (.var t (v.map .d)))(C:Ch fr q=some (.ptr id 0))(Z:GZ hp id .dead=some hp'):AS.le ⟨fr,hp⟩ ⟨(q,.d (Fg t v))::fr,hp'⟩:=by
 rw[Fp Z];intro I n a w ⟨s,X,c,P⟩;obtain⟨g,f,N,m,R,M,i,Y,r⟩:=P.hp id _ L;let T:GS:=⟨λb k=>s.S b k\/b=g,s.tag,s.w⟩;have W:GS.Chg s T:=⟨Yah _,λ_ _ B=>.inl B,λb f t Q E=>⟨f,Q,E,λ_ _=>rfl⟩⟩;have O:g<s.w.heap.size:=Bw R;have H:T.Ok:=⟨λb k B=>B.elim (P.ok.lt b k) λh=>h▸O,λb k U=>.inl (P.ok.safe b k U)⟩;have l:OwB s (X id) (.var t (v.map .d)) g:=by show DQ (X id)=some g;rw[N];rfl
 have z:GS.LeX I.mine I.g T:=⟨P.le.os,P.le.tape,P.le.output,P.le.block,P.le.chg.trans W,λb k E J B=>B.elim (P.le.old b k E J) λB=>((P.own id _ b L (B▸l)).elim J λh=>absurd E ZbG).elim,P.le.tag,λ_=>H⟩
 have j:=P.upd (s':=T) (o':=.dead) (ρ':=X) (f:=λx=>x) z H W L
  (λb _ p=>⟨rfl,λk=>⟨λB=>B.elim (λh=>h) λh=>absurd (h▸l) p,λB=>.inl B⟩⟩) (λ_ _=>rfl) trivial (λb E=>E.elim) λK A h=>h.chg W
 rw[Sc,LP]at j;have j:StI I n ⟨fr,hp.set id .dead⟩ a T X:=j;refine⟨T,X,c,⟨j.le,j.ok,λu K S=>?_,j.sz,j.df,j.hp,j.sep,j.own⟩⟩;rw[Da]at S;split at S
 .rename_i e
  cases S;subst e;obtain⟨_,b,G,y⟩:=P.fr q _ C;rw[N]at G;cases G;refine⟨g,0,y,f,(0,0),R,λk B=>?_⟩;have F:=r k (.d (DM v k)) (by simp[DM,B]);obtain⟨u,o,V,d⟩:=F;rw[YaG];exact⟨.inr rfl,u,o,V,(DM v k).st d W⟩
 .exact j.fr u K S
end
theorem CL{s0:An}{Q:Exit->AS->Prop}{e:List (Nat×AV)}{ds:List D}(id q:Nat)(s:H[id]? = some (.var t (ds.map .d)))(C:Ch e q=some (.ptr id 0))(Z:GZ H id .dead=some vA)(k:AWp P s0 n vp Q ⟨(q,.d (Fg t ds))::e,vA⟩):AWp P s0 n vp Q ⟨e,H⟩:=DV (A8z id q s C Z) k
abbrev wH(b:List Nat):List Ow:=[.var 103 [.own 1],.row 5 1 (CR b)]
def Wr(f:FuncId)(x:D)(e:List Nat):Prop:=∀b,b.length+e.length<=1000000000000->Con prog f [.ptr 0 0,.d x] (wH b) [1] (λr H=>r=.d CC/\H=wH (b++e))
theorem Wr.intro{f:FuncId}{x:D}{e:List Nat}(h:∀b,b.length+e.length<=1000000000000->Con prog f [.ptr 0 0,.d x] (wH b) [1] (λr H=>r=.d CC/\H.take 2=wH (b++e))):Wr f x e:=λb E=>(h b E).cut λr H ⟨q,A⟩=>ZaY
theorem BC(p:P.funcs[ve]? = some vO)(E:vO.body=some vp)(i:∀R w,(callFunc ve R).run P w=.ok (.enter ve R) w)(q:Nat.ble R.length vO.ntmps=true)
  (h:∀(A:An) (S v:Value),AWp P A vO.ntmps vp (FinC P vO [1] [S,v] vy) ⟨Je 0 R,[vt,uE,.pin [(S,.own 0)]]⟩):Con P ve R [vt,uE] [1] vy:=
 Tl p E i q λA J r=>by
  match J,r with
  |[S,v],_=>exact h A S v
theorem Ca{id off:Nat}(C:vz x=.ptr id off):Quiet P H ⟨vB,.nilCheck x,t,vG,vH,vQ⟩ vz (.ptr id off):=by
 refine⟨λbase s X i A z Z r=>?_⟩;have Y:=r x ZcW;rw[C]at Y;obtain⟨n,b,q,f⟩:=Y;refine Cd (v:=i x) ?_ ⟨GS.Le.refl s,n,b,q,f⟩;simp[execOp,f]
theorem Dj(n:Nat)(A:n<18446744073709551616):Wr 120 (ex (.int .u64 (n:Nat))) (BA n):=Wr.intro λb E=>by
 refine BC func120 rfl (Ag func120 ZbK ZbK) rfl λw x C=>?_;rw[ntmps120];refine Go ?_;refine AF (λv c=>∃z g,v=g/\g<18446744073709551616/\z++BA g=b++BA n/\c=⟨[(0,.ptr 0 0),(1,.d (ex (.int .u64 (g:Nat))))],[.var 103 [.own 1],.row 5 1 (CR z),.pin [(x,.own 0)]]⟩) ?le ⟨b,n,rfl,A,rfl,rfl⟩ ?round
 case le=>exact Ac Zcg (by exact HpLe.cons (Ad rfl)<|Yr<|HpLe.cons (Ak rfl)<|HpLe.nil)
 case round=>
  rintro g _ ⟨z,_,rfl,m,a,rfl⟩;have B:(z++BA g).length=(b++BA n).length:=by rw[a]
  rw[Yaa,Yaa]at B;have F:=II g;by_cases h:128<=g
  .have q:BA g=(g%128+128)::BA (g/128):=by rw [BA, Yai ZbG]
   have y:BA g=[g%128+128]++BA (g/128):=q;rw[q,Yay]at B;have I:=Dc z;have r:=II (g/128);refine Go ?_;refine Wq (Ca (ao rfl)) ?_;refine Go ?_;refine Wq (DP (r:=((g%128+128:Nat):Int)) (ao rfl) (ao rfl) (by rw[IntKind.wrap_u8,IntKind.wrap_u8];omega)) ?_;(refine Df rfl rfl ?_;(refine DG (Aa rfl) (Aa rfl) rfl rfl rfl rfl rfl ?_;(repeat ((first | refine⟨_,Az (ao rfl),?_⟩ | refine⟨_,Po rfl,?_⟩);refine⟨_,rfl,?_⟩));refine⟨_,rfl,?_⟩));(refine Ot (r2:=[[ex (.int .u8 ((g%128+128:Nat):Int))]]) (ao rfl) rfl rfl (Aa rfl) (Aa rfl) rfl rfl Zdv Zdv rfl ZcD rfl ?_);refine Wq (Ca (ao rfl)) ?_;refine Wq AC ?_;refine Ep (ao rfl) (ao rfl) rfl (Aa rfl) ZdG rfl rfl ?_;refine Go ?_;refine Wq (GU (r:=((g/128:Nat):Int)) (ao rfl) (ao rfl) ZbL ZcQ) ?_;refine Go ?_;refine Ai (g/128) ZbG ⟨z++[g%128+128],g/128,rfl,by omega,by rw[Yaf,<-y];exact a,rfl⟩ ?_;exact Ac Zcg (by refine HpLe.cons (Ad rfl) ?_;(refine HpLe.cons (OwLe.row (by rw[IP];rfl)) ?_);exact HpLe.cons (Ak rfl)<|HpLe.nil)
  .have q:BA g=[g]:=by rw [BA, Yan ZbG]
   rw[q,Yay]at B;rw[q]at a;have I:=Dc z;refine Ah<|Y1<|Wm ?_;refine Wq AO ?_;refine Y0<|Cf<|Cg<|BD<|BS<|BI<|Yn<|AWp.region<|Wm<|Wm ?_;refine Wq (Ca (ao rfl)) ?_;refine Wq AC ?_;refine Wq Cn ?_;refine Wm ?_;refine Wq (AP (r:=((g:Nat):Int)) (ao rfl) (Aa rfl) (Aa rfl) ZcH) ?_;(refine Df rfl rfl ?_;(refine DG (Aa rfl) (Aa rfl) rfl rfl rfl rfl rfl ?_;(repeat ((first | refine⟨_,Az (ao rfl),?_⟩ | refine⟨_,Po rfl,?_⟩);refine⟨_,rfl,?_⟩));refine⟨_,rfl,?_⟩));(refine Ot (r2:=[[ex (.int .u8 ((g:Nat):Int))]]) (ao rfl) rfl rfl (Aa rfl) (Aa rfl) rfl rfl Zdv Zdv rfl ZcD rfl ?_);refine Wq (Ca (ao rfl)) ?_;refine Wq AC ?_;refine Ep (ao rfl) (ao rfl) rfl (Aa rfl) ZdG rfl rfl ?_;apply AWl.nil
   first | refine Bs RetsA.none rfl ?_ rfl | refine AW RetsA.none rfl ?_ rfl
   exact⟨rfl,by rw[<-a,wH,IP];rfl⟩
def IW(z:Int):Prop:=-9223372036854775808<=z/\z<=9223372036854775807
structure TW(t:RTm):Prop where
 n:SmW t.l
 d:SmW t.l'
abbrev Fn{F:Type}(D:F->Prop)(l:List F):Prop:=∀x∈l,D x
abbrev PoW:List RTm->Prop:=Fn TW
abbrev PsW:List (List RTm)->Prop:=Fn PoW
abbrev TaW:List (List (List RTm))->Prop:=Fn PsW
def Gp{F:Type}(D:F->Prop)(f:Nat->F):Prop:=∀i,i<8->D (f i)
theorem BF[Inhabited e]{l:List e}{k:Nat}(h:k<l.length):l.getD k default∈l:=by
 exact Zge
theorem Cm{F:Type}[Inhabited F](e:F->List Nat){l:List F}{k:Nat}(h:k<l.length):(l.take (k+1)).flatMap e=(l.take k).flatMap e++e (l.getD k default):=by
 rw[YcT,Yac h,List.flatMap_append,Yab,Yac h];simp
theorem Dg{F:Type}[Inhabited F](e:F->List Nat){l:List F}{k:Nat}(h:k<l.length):((l.take k).flatMap e).length+(e (l.getD k default)).length<=(l.flatMap e).length:=by
 have q:l.flatMap e=(l.take (k+1)).flatMap e++(l.drop (k+1)).flatMap e:=by rw[<-List.flatMap_append,Ycc]
 rw[q,Cm e h,Yaa,Yaa];omega
def DC{F:Type}(e:F->List Nat)(f:Nat->F)(k:Nat):List Nat:=(List.range k).flatMap λi=>e (f i)
theorem Es{F:Type}(e:F->List Nat)(f:Nat->F)(k:Nat):DC e f (k+1)=DC e f k++e (f k):=by simp[DC,Ycv]
theorem Gg{F:Type}(e:F->List Nat)(f:Nat->F){k:Nat}:∀{n:Nat},k<n->(DC e f k).length+(e (f k)).length<=(DC e f n).length
 |n+1,h=>by
  rw[Es,Yaa];by_cases B:k=n
  .subst B
   exact Yah _
  .have:=Gg e f (n:=n) (show k<n by omega)
   omega
theorem NJ(q:h=l++vo):CR l++CR vo=CR h:=by rw[q,IP]
theorem EX{w n m:Nat}(h:2^n=m):((w:Int)).fdiv (2^n)=((w/m:Nat):Int):=by
 subst h;rw[Int.fdiv_eq_ediv_of_nonneg _ (by have:(0:Int)<2^n:=Int.pow_pos ZbG;omega)]
 norm_cast
theorem FL(z:Int)(u:IW z):Wr 54 (ex (.int .i64 z)) (Bm z):=Wr.intro λb E=>by
 obtain⟨q,A⟩:=u;by_cases h:0<=z
 .have e:Bm z=BA (2*z.toNat):=by rw [Bm, TI, Yai ZbG]
  rw[e]at E ⊢;have F:=Dj (2*z.toNat) ZbG b E;refine BC func54 rfl (Ag func54 ZbK ZbK) rfl λw x B=>?_;rw[ntmps54];refine Y1<|Wm ?_;refine Wq Bc ?_;refine Y0<|Ct<|AWp.region<|Wm<|Wm ?_;refine Wq (AP (r:=((z.toNat:Nat):Int)) (ao rfl) (Aa rfl) (Aa rfl) ZcN) ?_;refine Wq (GV (r:=((2*z.toNat:Nat):Int)) (ao rfl) (ao rfl) ZcN) ?_
  exact ZaZ
 .have e:Bm z=BA (2*(-(z+1)).toNat+1):=by rw [Bm, TI, Yan ZbG]
  rw[e]at E ⊢;have F:=Dj (2*(-(z+1)).toNat+1) ZbG b E;refine BC func54 rfl (Ag func54 ZbK ZbK) rfl λw x B=>?_;rw[ntmps54];refine Y1<|Wm ?_;refine Wq AO ?_;refine Y0<|Cf<|AWp.region<|Wm<|Wm ?_;refine Wq WF ?_;refine Wq A0Y ?_;refine Wq (AP (r:=(((-(z+1)).toNat:Nat):Int)) (ao rfl) (Aa rfl) (Aa rfl) ZcN) ?_;refine Wq (GV (r:=((2*(-(z+1)).toNat:Nat):Int)) (ao rfl) (ao rfl) ZcN) ?_;refine Wq (DP (r:=((2*(-(z+1)).toNat+1:Nat):Int)) (ao rfl) (ao rfl) ZcN) ?_
  exact ZaZ
theorem Sm(s:Bool)(l:List Nat)(I:SmW l):Wr 281 (AQ [ex (.bool s),wD l]) (Hp s l):=Wr.intro λb E=>by
 have C:∀k,k<l.length->l.getD k 0<4294967296:=λk B=>I.1 _ (BF B);have n:=I.2;have Q:(Hp s l).length=(BA (2*l.length+(if s=true then 1 else 0))).length+(l.flatMap CA).length:=by rw[Hp,Yaa]
 have Z:2*l.length+(if s=true then 1 else 0)<18446744073709551616:=by split<;>omega
 obtain⟨N,A⟩:∃N,N=2*l.length+(if s=true then 1 else 0):=⟨_,rfl⟩;have W:Hp s l=BA N++l.flatMap CA:=by rw[A];rfl
 rw[<-A]at Z Q;have F:=Dj N Z b ZbG;refine BC func281 rfl (Ag func281 ZbK ZbK) rfl λq x h=>?_;rw[ntmps281];apply Y1;refine Bx ?_;refine Y0<|Y1 ?_;refine Wq AC ?_;refine Wq Ao ?_;refine Wq QT ?_;refine Wq (AP (r:=((l.length:Nat):Int)) (ao rfl) (Aa rfl) (Aa rfl) (ES ZbG)) ?_;refine Wq (GV (r:=((2*l.length:Nat):Int)) (ao rfl) (ao rfl) ZcN) ?_;refine Wa<|Y0<|Ah<|Y1 ?_;refine Wq AC ?_;refine Wq Ao ?_;apply Y0
 cases s
 .have S:N=2*l.length:=by rw [A];simp
  refine Go ?_;refine AU [0,1] [] [] ((by rw[S]at F;exact F)) (by first | exact Or.inl rfl | exact Or.inr ⟨by decide,rfl,by repeat (first | exact AvoidR.nil | refine Aj rfl ?_ | refine AvoidR.dead ?_ | refine AvoidR.row ?_ | refine AvoidR.obj ?_ | refine AvoidR.varD ?_ | refine AvoidR.varA rfl ?_ | refine AvoidR.pin rfl ?_)⟩) rfl rfl (by first | exact .inl ⟨rfl,rfl,rfl⟩ | exact .inr (.inr ⟨rfl,rfl,rfl⟩)) (by repeat (first | exact ArgsC.nil | refine ArgsC.d rfl (D.le.refl _) ?_ | refine ArgsC.av rfl rfl ?_)) (by decide) (by repeat (first | exact SelR.nil | refine SelR.var rfl ?_ | refine SelR.obj rfl ?_ | refine SelR.row rfl ?_ | refine SelR.varA rfl rfl rfl ?_)) (by repeat (first | exact trivial | refine⟨⟨_,_,rfl⟩,?_⟩)) trivial rfl ?_;rintro _ _ ⟨rfl,rfl⟩;refine Kr ?_;refine Go ?_;refine AF (λv c=>∃k,k<=l.length/\v=l.length-k/\c=⟨[(0,.ptr 0 0),(20,.d (wD l)),(21,.d (ex (.int .i64 (l.length:Nat)))),(22,.d (ex (.int .i64 (k:Nat))))],[.var 103 [.own 1],.row 5 1 (CR (b++BA N++(l.take k).flatMap CA)),.pin [(x,.own 0)]]⟩) ?le ⟨0,by omega,rfl,rfl⟩ ?round
  case le=>exact Ac Zdg ZdC
  case round=>
   exact Zba
 .have S:N=2*l.length+1:=by rw [A];simp
  refine Go ?_;refine Wq (DP (r:=((2*l.length+1:Nat):Int)) (ao rfl) (ao rfl) (by rw[ES (by omega)];omega)) ?_;refine Go ?_;refine AU [0,1] [] [] ((by rw[S]at F;exact F)) (by first | exact Or.inl rfl | exact Or.inr ⟨by decide,rfl,by repeat (first | exact AvoidR.nil | refine Aj rfl ?_ | refine AvoidR.dead ?_ | refine AvoidR.row ?_ | refine AvoidR.obj ?_ | refine AvoidR.varD ?_ | refine AvoidR.varA rfl ?_ | refine AvoidR.pin rfl ?_)⟩) rfl rfl (by first | exact .inl ⟨rfl,rfl,rfl⟩ | exact .inr (.inr ⟨rfl,rfl,rfl⟩)) (by repeat (first | exact ArgsC.nil | refine ArgsC.d rfl (D.le.refl _) ?_ | refine ArgsC.av rfl rfl ?_)) (by decide) (by repeat (first | exact SelR.nil | refine SelR.var rfl ?_ | refine SelR.obj rfl ?_ | refine SelR.row rfl ?_ | refine SelR.varA rfl rfl rfl ?_)) (by repeat (first | exact trivial | refine⟨⟨_,_,rfl⟩,?_⟩)) trivial rfl ?_;rintro _ _ ⟨rfl,rfl⟩;refine Kr ?_;refine Go ?_;refine AF (λv c=>∃k,k<=l.length/\v=l.length-k/\c=⟨[(0,.ptr 0 0),(20,.d (wD l)),(21,.d (ex (.int .i64 (l.length:Nat)))),(22,.d (ex (.int .i64 (k:Nat))))],[.var 103 [.own 1],.row 5 1 (CR (b++BA N++(l.take k).flatMap CA)),.pin [(x,.own 0)]]⟩) ?le ⟨0,by omega,rfl,rfl⟩ ?round
  case le=>exact Ac Zdg ZdC
  case round=>
   exact Zba
def Wl(f W:FuncId)(x:D)(e:List Nat):Prop:=∀b,b.length+e.length<=1000000000000->Con prog f [.ptr 0 0,.d x,.fn (W+1000000) [0]] (wH b) [1] (λr H=>r=.d CC/\H=wH (b++e))
theorem Wl.intro{f W:FuncId}{x:D}{e:List Nat}(h:∀b,b.length+e.length<=1000000000000->Con prog f [.ptr 0 0,.d x,.fn (W+1000000) [0]] (wH b) [1] (λr H=>r=.d CC/\H.take 2=wH (b++e))):Wl f W x e:=λb E=>(h b E).cut λr H ⟨q,A⟩=>ZaY
def VW(a:RQ×RQ):Prop:=QB a.1/\QB a.2
def SqW(s:RQ×List RTm):Prop:=QB s.1/\PoW s.2
structure CoW(k:Cor):Prop where
 n:IW k.n
 e:PsW k.e
 f:PsW k.f
structure ClW(c:Clm):Prop where
 kind:IW c.kind
 p:PoW c.p
 n:IW c.n
 d:IW c.d
 r:IW c.r
 o:Fn (Gp IW) c.o
 l:PsW c.l
 s:Fn IW c.s
 b:Fn (Gp VW) c.b
structure RsW(r:Rsl):Prop where
 l:Gp IW r.l
 q:Fn QB r.q
 r:Gp (Fn QB) r.r
structure CrW(e:Crt):Prop where
 n:IW e.n
 cof:PsW e.cof
 g:PsW e.g
 o:Fn (Gp IW) e.o
 c:TaW e.c
 q:TaW e.q
 s:TaW e.s
 r:RsW e.r
 a:Fn VW e.a
 sq:Fn SqW e.sq
 x:Fn (Gp QB) e.x
 b:Fn (Gp VW) e.b
structure FW(f:Fct):Prop where
 k:CoW f.k
 c:ClW f.c
 e:CrW f.e
theorem Xm(z:Int):IntKind.u64.wrap z=((u64 z:Nat):Int):=by
 rw[IntKind.wrap_u64];unfold u64;omega
theorem Gu(q:RQ)(k:QB q):Wr 220 (AQ (Hl q)) (CG q):=Wr.intro λb E=>by
 simp only[CG,Yaa]at E;have d:=Sm q.b q.l k.n (b) ZbO;have A:=Sm q.b' q.l' k.d (b++Hp q.b q.l) ZbO;refine BC func220 rfl (Ag func220 ZbK ZbK) rfl λw x h=>?_;rw[ntmps220];refine ZfL ?_;rintro _ _ ⟨rfl,rfl⟩;refine ZfN ?_;refine AU [0,1] [] [] (A) ZbC rfl rfl ZbF ZbD ZbL ZbB ZbH trivial rfl ?_;rintro _ _ ⟨rfl,rfl⟩;refine ZhY ?_
 first | refine Bs RetsA.none rfl ?_ rfl | refine AW RetsA.none rfl ?_ rfl
 exact Zkp
theorem PV(a:RQ×RQ)(l:VW a):Wr 209 (AQ (Jk a)) (GO a):=Wr.intro λb E=>by
 simp only[GO,Yaa]at E;have d:=Gu a.1 l.1 (b) ZbO;have q:=Gu a.2 l.2 (b++CG a.1) ZbO;refine BC func209 rfl (Ag func209 ZbK ZbK) rfl λw x h=>?_;rw[ntmps209];refine ZfL ?_;rintro _ _ ⟨rfl,rfl⟩;refine ZgW ?_;rintro _ _ ⟨rfl,rfl⟩;refine ZhY ?_
 first | refine Bs RetsA.none rfl ?_ rfl | refine AW RetsA.none rfl ?_ rfl
 exact⟨rfl,by simp only[GO,Yaf];rfl⟩
theorem RW(a:Nat->Int)(l:Gp IW a):Wr 124 (AQ (CE a)) (Fy a):=Wr.intro λb E=>by
 have Q:Fy a=DC (Bm) a 8:=rfl;rw[Q]at E ⊢;refine BC func124 rfl (Ag func124 ZbK ZbK) rfl λw x h=>?_;rw[ntmps124];refine Go ?_;refine AF (λv c=>∃k,k<=8/\v=8-k/\c=⟨[(0,.ptr 0 0),(6,.d (AQ (CE a))),(7,.d (ex (.int .i64 (k:Nat))))],[.var 103 [.own 1],.row 5 1 (CR (b++DC (Bm) a k)),.pin [(x,.own 0)]]⟩) ?le ⟨0,by omega,rfl,rfl⟩ ?round
 case le=>exact Ac Zck Zcx
 case round=>
  rintro v _ ⟨k,B,rfl,rfl⟩;by_cases O:k<8
  .have B:=Gg (Bm) a O
   have F:=FL (a k) (l k O) (b++DC (Bm) a k) ZbO;apply Y1;refine Wq Bc ?_;refine Y0<|Ah<|Ct<|Ys<|Ah<|AWp.block<|Y1 ?_;refine Wq (Gj (ao rfl) (ao rfl) (Aa rfl) (Aa rfl) rfl O (CellAt.mon O)) ?_;refine Wa<|Y0<|AWp.region<|Wm<|Wm ?_
   exact Ziy
  .exact Zbb
theorem Aa1(f:Nat->RQ×RQ)(p:Gp VW f):Wr 272 (AQ (Dv f)) (GR f):=Wr.intro λb E=>by
 have Q:GR f=DC (GO) f 8:=rfl;rw[Q]at E ⊢;refine BC func272 rfl (Ag func272 ZbK ZbK) rfl λw x h=>?_;rw[ntmps272];refine Go ?_;refine AF (λv c=>∃k,k<=8/\v=8-k/\c=⟨[(0,.ptr 0 0),(6,.d (AQ (Dv f))),(7,.d (ex (.int .i64 (k:Nat))))],[.var 103 [.own 1],.row 5 1 (CR (b++DC (GO) f k)),.pin [(x,.own 0)]]⟩) ?le ⟨0,by omega,rfl,rfl⟩ ?round
 case le=>exact Ac Zck Zcx
 case round=>
  rintro v _ ⟨k,B,rfl,rfl⟩;by_cases O:k<8
  .have B:=Gg (GO) f O
   have F:=PV (f k) (p k O) (b++DC (GO) f k) ZbO;refine ZfH ?_;refine ZgX ?_;exact Zix
  .exact Zbb
theorem A5a(f:Nat->RQ)(p:Gp QB f):Wr 213 (AQ (Mq f)) (Qp f):=Wr.intro λb E=>by
 have Q:Qp f=DC (CG) f 8:=rfl;rw[Q]at E ⊢;refine BC func213 rfl (Ag func213 ZbK ZbK) rfl λw x h=>?_;rw[ntmps213];refine Go ?_;refine AF (λv c=>∃k,k<=8/\v=8-k/\c=⟨[(0,.ptr 0 0),(6,.d (AQ (Mq f))),(7,.d (ex (.int .i64 (k:Nat))))],[.var 103 [.own 1],.row 5 1 (CR (b++DC (CG) f k)),.pin [(x,.own 0)]]⟩) ?le ⟨0,by omega,rfl,rfl⟩ ?round
 case le=>exact Ac Zck Zcx
 case round=>
  rintro v _ ⟨k,B,rfl,rfl⟩;by_cases O:k<8
  .have B:=Gg (CG) f O
   have F:=Gu (f k) (p k O) (b++DC (CG) f k) ZbO;refine ZfH ?_;refine ZgX ?_;exact Zix
  .exact Zbb
theorem A78(t:RTm)(L:TW t):Wr 122 (AQ (rtC t)) (Ef t):=Wr.intro λb E=>by
 have Q:Ef t=CG ⟨t.b,t.l,t.b',t.l'⟩++DC (λz=>BA (u64 z)) t.m 8:=rfl;rw[Q]at E ⊢;simp only[Yaa]at E;have d:=Gu ⟨t.b,t.l,t.b',t.l'⟩ ⟨L.n,L.d⟩ b ZbG;refine BC func122 rfl (Ag func122 ZbK ZbK) rfl λw x h=>?_;rw[ntmps122];refine ZfL ?_;rintro _ _ ⟨rfl,rfl⟩;refine ZfN ?_;refine AF (λv c=>∃k,k<=8/\v=8-k/\c=⟨[(0,.ptr 0 0),(11,.d (AQ (CE t.m))),(12,.d (ex (.int .i64 (k:Nat))))],[.var 103 [.own 1],.row 5 1 (CR (b++CG ⟨t.b,t.l,t.b',t.l'⟩++DC (λz=>BA (u64 z)) t.m k)),.pin [(x,.own 0)]]⟩) ?le ⟨0,by omega,rfl,rfl⟩ ?round
 case le=>exact Ac Zck Zcx
 case round=>
  rintro v _ ⟨k,B,rfl,rfl⟩;by_cases O:k<8
  .have B:=Gg (λz=>BA (u64 z)) t.m O
   have F:=Dj (u64 (t.m k)) (by unfold u64;omega) (b++CG ⟨t.b,t.l,t.b',t.l'⟩++DC (λz=>BA (u64 z)) t.m k) ZbO;apply Y1;refine Wq Bc ?_;refine Y0<|Ah<|Ct<|Ys<|Ah<|AWp.block<|Y1 ?_;refine Wq (Gj (ao rfl) (ao rfl) (Aa rfl) (Aa rfl) rfl O (CellAt.mon O)) ?_;refine Wa<|Y0<|AWp.region<|Wm<|Wm ?_;refine Wq (AP (r:=((u64 (t.m k):Nat):Int)) (ao rfl) (Aa rfl) (Aa rfl) (Xm (t.m k))) ?_
   exact Ziy
  .obtain rfl:k=8:=by omega
   refine Go ?_
   first | refine Bs RetsA.none rfl ?_ rfl | refine AW RetsA.none rfl ?_ rfl
   exact⟨rfl,by rw[Yaf];rfl⟩
theorem A92(L:List (RTm))(m:Fn TW L):Wl 121 122 (Kc L) (Bt Ef L):=Wl.intro λb E=>by
 have h:=Dk (e:=Ef) (l:=L) λx _=>Rm x;have Q:(Bt Ef L).length=(BA L.length).length+(L.flatMap Ef).length:=Zkq
 rw[Q]at E;have d:=Dj L.length ZbG b ZbG;refine BC func121 rfl (Ag func121 ZbK ZbK) rfl λw q A=>?_;rw[ntmps121];refine Y1<|Wm<|Wm ?_;refine Wq (Bj rfl (Aa rfl)) ?_;refine Wq (AP (r:=((L.length:Nat):Int)) (ao rfl) (Aa rfl) (Aa rfl) (ES ZbG)) ?_
 refine AU [0,1] [] [] (d) ZbC rfl rfl ZbF ZbD ZbL ZbB ZbH trivial rfl ?_;rintro _ _ ⟨rfl,rfl⟩;refine Kr ?_;refine Y0<|Y1<|Wm ?_;refine Wq (Bj rfl (Aa rfl)) ?_;refine Wm<|Y0<|AWp.block ?_
 refine AF (λv c=>∃k,k<=L.length/\v=L.length-k/\c=⟨[(0,.ptr 0 0),(2,.fn (122+1000000) [0]),(13,.d (Kc L)),(14,.d (ex (.int .i64 (L.length:Nat)))),(15,.d (ex (.int .i64 (k:Nat))))],[.var 103 [.own 1],.row 5 1 (CR (b++BA L.length++(L.take k).flatMap Ef)),.pin [(q,.own 0)]]⟩) ?le ⟨0,by omega,rfl,rfl⟩ ?round
 case le=>exact Zkr
 case round=>
  rintro v _ ⟨k,B,rfl,rfl⟩;by_cases O:k<L.length
  .have B:=Dg Ef O
   have F:=A78 (L.getD k default) (m _ (BF O)) (b++BA L.length++(L.take k).flatMap Ef) Zca;apply Y1;refine Wq Bc ?_;refine Y0<|Ah<|Ct<|Ys<|Ah<|AWp.block<|Y1 ?_;refine Wq (CD (k:=k) rfl (ao rfl) (Aa rfl) (Aa rfl) rfl O) ?_;refine Wq Cb ?_;refine Al ?_;refine Sf ?_;refine Y0<|AWp.region<|Wm ?_;refine Wq AD ?_
   refine AU [0,1] [0] [] (F) ZbC rfl rfl ZbF ZbD ZbL ZbB ZbH trivial rfl ?_;rintro _ _ ⟨rfl,rfl⟩;refine ZgO ?_;exact Ac ZbW (by exact HpLe.cons (Ad rfl)<|HpLe.cons (OwLe.row (by rw[Cm Ef O,<-Yaf]))<|HpLe.cons (Ak rfl)<|HpLe.nil)
  .exact Zbc
theorem QJ(l:List (RTm))(I:Fn TW l):Wr 55 (Kc l) (Cp l):=Wr.intro λb E=>by
 have F:=A92 l I b E;refine BC func55 rfl (Ag func55 ZbK ZbK) rfl λw x h=>?_;rw[ntmps55];refine Go ?_;refine ZfO ?_;rintro _ _ ⟨rfl,rfl⟩;refine ZhY ?_
 exact ZbA
theorem A93(L:List (List RTm))(m:Fn PoW L):Wl 219 55 (Ic L) (Bt Cp L):=Wl.intro λb E=>by
 have h:=Dk (e:=Cp) (l:=L) λx _=>JO _ _;have Q:(Bt Cp L).length=(BA L.length).length+(L.flatMap Cp).length:=Zkq
 rw[Q]at E;have d:=Dj L.length ZbG b ZbG;refine BC func219 rfl (Ag func219 ZbK ZbK) rfl λw q A=>?_;rw[ntmps219];refine Y1<|Wm<|Wm ?_;refine Wq (Bj rfl (Aa rfl)) ?_;refine Wq (AP (r:=((L.length:Nat):Int)) (ao rfl) (Aa rfl) (Aa rfl) (ES ZbG)) ?_
 refine AU [0,1] [] [] (d) ZbC rfl rfl ZbF ZbD ZbL ZbB ZbH trivial rfl ?_;rintro _ _ ⟨rfl,rfl⟩;refine Kr ?_;refine Y0<|Y1<|Wm ?_;refine Wq (Bj rfl (Aa rfl)) ?_;refine Wm<|Y0<|AWp.block ?_
 refine AF (λv c=>∃k,k<=L.length/\v=L.length-k/\c=⟨[(0,.ptr 0 0),(2,.fn (55+1000000) [0]),(13,.d (Ic L)),(14,.d (ex (.int .i64 (L.length:Nat)))),(15,.d (ex (.int .i64 (k:Nat))))],[.var 103 [.own 1],.row 5 1 (CR (b++BA L.length++(L.take k).flatMap Cp)),.pin [(q,.own 0)]]⟩) ?le ⟨0,by omega,rfl,rfl⟩ ?round
 case le=>exact Zkr
 case round=>
  rintro v _ ⟨k,B,rfl,rfl⟩;by_cases O:k<L.length
  .have B:=Dg Cp O
   have F:=QJ (L.getD k default) (m _ (BF O)) (b++BA L.length++(L.take k).flatMap Cp) Zca;apply Y1;refine Wq Bc ?_;refine Y0<|Ah<|Ct<|Ys<|Ah<|AWp.block<|Y1 ?_;refine Wq (CD (k:=k) rfl (ao rfl) (Aa rfl) (Aa rfl) rfl O) ?_;refine Wq AT ?_;refine Wa<|Y0<|AWp.region<|Wm<|Wm ?_
   refine AU [0,1] [0] [] (F) ZbC rfl rfl ZbF ZbD ZbL ZbB ZbH trivial rfl ?_;rintro _ _ ⟨rfl,rfl⟩;refine ZgO ?_;exact Ac ZbW (by exact HpLe.cons (Ad rfl)<|HpLe.cons (OwLe.row (by rw[Cm Cp O,<-Yaf]))<|HpLe.cons (Ak rfl)<|HpLe.nil)
  .exact Zbc
theorem JI(l:List (List RTm))(I:Fn PoW l):Wr 119 (Ic l) (Bf l):=Wr.intro λb E=>by
 have F:=A93 l I b E;refine BC func119 rfl (Ag func119 ZbK ZbK) rfl λw x h=>?_;rw[ntmps119];refine Go ?_;refine ZfO ?_;rintro _ _ ⟨rfl,rfl⟩;refine ZhY ?_
 exact ZbA
theorem A77(L:List (List (List RTm)))(m:Fn PsW L):Wl 273 119 (Tu L) (Bt Bf L):=Wl.intro λb E=>by
 have h:=Dk (e:=Bf) (l:=L) λx _=>JO _ _;have Q:(Bt Bf L).length=(BA L.length).length+(L.flatMap Bf).length:=Zkq
 rw[Q]at E;have d:=Dj L.length ZbG b ZbG;refine BC func273 rfl (Ag func273 ZbK ZbK) rfl λw q A=>?_;rw[ntmps273];refine Y1<|Wm<|Wm ?_;refine Wq (Bj rfl (Aa rfl)) ?_;refine Wq (AP (r:=((L.length:Nat):Int)) (ao rfl) (Aa rfl) (Aa rfl) (ES ZbG)) ?_
 refine AU [0,1] [] [] (d) ZbC rfl rfl ZbF ZbD ZbL ZbB ZbH trivial rfl ?_;rintro _ _ ⟨rfl,rfl⟩;refine Kr ?_;refine Y0<|Y1<|Wm ?_;refine Wq (Bj rfl (Aa rfl)) ?_;refine Wm<|Y0<|AWp.block ?_
 refine AF (λv c=>∃k,k<=L.length/\v=L.length-k/\c=⟨[(0,.ptr 0 0),(2,.fn (119+1000000) [0]),(13,.d (Tu L)),(14,.d (ex (.int .i64 (L.length:Nat)))),(15,.d (ex (.int .i64 (k:Nat))))],[.var 103 [.own 1],.row 5 1 (CR (b++BA L.length++(L.take k).flatMap Bf)),.pin [(q,.own 0)]]⟩) ?le ⟨0,by omega,rfl,rfl⟩ ?round
 case le=>exact Zkr
 case round=>
  rintro v _ ⟨k,B,rfl,rfl⟩;by_cases O:k<L.length
  .have B:=Dg Bf O
   have F:=JI (L.getD k default) (m _ (BF O)) (b++BA L.length++(L.take k).flatMap Bf) Zca;apply Y1;refine Wq Bc ?_;refine Y0<|Ah<|Ct<|Ys<|Ah<|AWp.block<|Y1 ?_;refine Wq (CD (k:=k) rfl (ao rfl) (Aa rfl) (Aa rfl) rfl O) ?_;refine Wq AT ?_;refine Wa<|Y0<|AWp.region<|Wm<|Wm ?_
   refine AU [0,1] [0] [] (F) ZbC rfl rfl ZbF ZbD ZbL ZbB ZbH trivial rfl ?_;rintro _ _ ⟨rfl,rfl⟩;refine ZgO ?_;exact Ac ZbW (by exact HpLe.cons (Ad rfl)<|HpLe.cons (OwLe.row (by rw[Cm Bf O,<-Yaf]))<|HpLe.cons (Ak rfl)<|HpLe.nil)
  .exact Zbc
theorem OF(l:List (List (List RTm)))(I:Fn PsW l):Wr 206 (Tu l) (BJ l):=Wr.intro λb E=>by
 have F:=A77 l I b E;refine BC func206 rfl (Ag func206 ZbK ZbK) rfl λw x h=>?_;rw[ntmps206];refine Go ?_;refine ZfO ?_;rintro _ _ ⟨rfl,rfl⟩;refine ZhY ?_
 exact ZbA
theorem AaI(L:List (RQ))(m:Fn QB L):Wl 308 220 (GY L) (Bt CG L):=Wl.intro λb E=>by
 have h:=Dk (e:=CG) (l:=L) λx _=>Jc x;have Q:(Bt CG L).length=(BA L.length).length+(L.flatMap CG).length:=Zkq
 rw[Q]at E;have d:=Dj L.length ZbG b ZbG;refine BC func308 rfl (Ag func308 ZbK ZbK) rfl λw q A=>?_;rw[ntmps308];refine Y1<|Wm<|Wm ?_;refine Wq (Bj rfl (Aa rfl)) ?_;refine Wq (AP (r:=((L.length:Nat):Int)) (ao rfl) (Aa rfl) (Aa rfl) (ES ZbG)) ?_
 refine AU [0,1] [] [] (d) ZbC rfl rfl ZbF ZbD ZbL ZbB ZbH trivial rfl ?_;rintro _ _ ⟨rfl,rfl⟩;refine Kr ?_;refine Y0<|Y1<|Wm ?_;refine Wq (Bj rfl (Aa rfl)) ?_;refine Wm<|Y0<|AWp.block ?_
 refine AF (λv c=>∃k,k<=L.length/\v=L.length-k/\c=⟨[(0,.ptr 0 0),(2,.fn (220+1000000) [0]),(13,.d (GY L)),(14,.d (ex (.int .i64 (L.length:Nat)))),(15,.d (ex (.int .i64 (k:Nat))))],[.var 103 [.own 1],.row 5 1 (CR (b++BA L.length++(L.take k).flatMap CG)),.pin [(q,.own 0)]]⟩) ?le ⟨0,by omega,rfl,rfl⟩ ?round
 case le=>exact Zkr
 case round=>
  rintro v _ ⟨k,B,rfl,rfl⟩;by_cases O:k<L.length
  .have B:=Dg CG O
   have F:=Gu (L.getD k default) (m _ (BF O)) (b++BA L.length++(L.take k).flatMap CG) Zca;apply Y1;refine Wq Bc ?_;refine Y0<|Ah<|Ct<|Ys<|Ah<|AWp.block<|Y1 ?_;refine Wq (CD (k:=k) rfl (ao rfl) (Aa rfl) (Aa rfl) rfl O) ?_;refine Wq Cb ?_;refine Al ?_;refine Sf ?_;refine Y0<|AWp.region<|Wm ?_;refine Wq AD ?_
   refine AU [0,1] [0] [] (F) ZbC rfl rfl ZbF ZbD ZbL ZbB ZbH trivial rfl ?_;rintro _ _ ⟨rfl,rfl⟩;refine ZgO ?_;exact Ac ZbW (by exact HpLe.cons (Ad rfl)<|HpLe.cons (OwLe.row (by rw[Cm CG O,<-Yaf]))<|HpLe.cons (Ak rfl)<|HpLe.nil)
  .exact Zbc
theorem Mu(l:List (RQ))(I:Fn QB l):Wr 274 (GY l) (GF l):=Wr.intro λb E=>by
 have F:=AaI l I b E;refine BC func274 rfl (Ag func274 ZbK ZbK) rfl λw x h=>?_;rw[ntmps274];refine Go ?_;refine ZfO ?_;rintro _ _ ⟨rfl,rfl⟩;refine ZhY ?_
 exact ZbA
theorem AaH(L:List (Nat->Int))(m:Fn (Gp IW) L):Wl 123 124 (Du L) (Bt Fy L):=Wl.intro λb E=>by
 have h:=Dk (e:=Fy) (l:=L) λx _=>Ie LN x;have Q:(Bt Fy L).length=(BA L.length).length+(L.flatMap Fy).length:=Zkq
 rw[Q]at E;have d:=Dj L.length ZbG b ZbG;refine BC func123 rfl (Ag func123 ZbK ZbK) rfl λw q A=>?_;rw[ntmps123];refine Y1<|Wm<|Wm ?_;refine Wq (Bj rfl (Aa rfl)) ?_;refine Wq (AP (r:=((L.length:Nat):Int)) (ao rfl) (Aa rfl) (Aa rfl) (ES ZbG)) ?_
 refine AU [0,1] [] [] (d) ZbC rfl rfl ZbF ZbD ZbL ZbB ZbH trivial rfl ?_;rintro _ _ ⟨rfl,rfl⟩;refine Kr ?_;refine Y0<|Y1<|Wm ?_;refine Wq (Bj rfl (Aa rfl)) ?_;refine Wm<|Y0<|AWp.block ?_
 refine AF (λv c=>∃k,k<=L.length/\v=L.length-k/\c=⟨[(0,.ptr 0 0),(2,.fn (124+1000000) [0]),(13,.d (Du L)),(14,.d (ex (.int .i64 (L.length:Nat)))),(15,.d (ex (.int .i64 (k:Nat))))],[.var 103 [.own 1],.row 5 1 (CR (b++BA L.length++(L.take k).flatMap Fy)),.pin [(q,.own 0)]]⟩) ?le ⟨0,by omega,rfl,rfl⟩ ?round
 case le=>exact Zkr
 case round=>
  rintro v _ ⟨k,B,rfl,rfl⟩;by_cases O:k<L.length
  .have B:=Dg Fy O
   have F:=RW (L.getD k default) (m _ (BF O)) (b++BA L.length++(L.take k).flatMap Fy) Zca;apply Y1;refine Wq Bc ?_;refine Y0<|Ah<|Ct<|Ys<|Ah<|AWp.block<|Y1 ?_;refine Wq (CD (k:=k) rfl (ao rfl) (Aa rfl) (Aa rfl) rfl O) ?_;refine Wq Cb ?_;refine Al ?_;refine Sf ?_;refine Y0<|AWp.region<|Wm ?_;refine Wq AD ?_
   refine AU [0,1] [0] [] (F) ZbC rfl rfl ZbF ZbD ZbL ZbB ZbH trivial rfl ?_;rintro _ _ ⟨rfl,rfl⟩;refine ZgO ?_;exact Ac ZbW (by exact HpLe.cons (Ad rfl)<|HpLe.cons (OwLe.row (by rw[Cm Fy O,<-Yaf]))<|HpLe.cons (Ak rfl)<|HpLe.nil)
  .exact Zbc
theorem RP(l:List (Nat->Int))(I:Fn (Gp IW) l):Wr 56 (Du l) (BZ l):=Wr.intro λb E=>by
 have F:=AaH l I b E;refine BC func56 rfl (Ag func56 ZbK ZbK) rfl λw x h=>?_;rw[ntmps56];refine Go ?_;refine ZfO ?_;rintro _ _ ⟨rfl,rfl⟩;refine ZhY ?_
 exact ZbA
theorem AaK(L:List (Nat->RQ×RQ))(m:Fn (Gp VW) L):Wl 271 272 (FX L) (Bt GR L):=Wl.intro λb E=>by
 have h:=Dk (e:=GR) (l:=L) λx _=>Ie Pa x;have Q:(Bt GR L).length=(BA L.length).length+(L.flatMap GR).length:=Zkq
 rw[Q]at E;have d:=Dj L.length ZbG b ZbG;refine BC func271 rfl (Ag func271 ZbK ZbK) rfl λw q A=>?_;rw[ntmps271];refine Y1<|Wm<|Wm ?_;refine Wq (Bj rfl (Aa rfl)) ?_;refine Wq (AP (r:=((L.length:Nat):Int)) (ao rfl) (Aa rfl) (Aa rfl) (ES ZbG)) ?_
 refine AU [0,1] [] [] (d) ZbC rfl rfl ZbF ZbD ZbL ZbB ZbH trivial rfl ?_;rintro _ _ ⟨rfl,rfl⟩;refine Kr ?_;refine Y0<|Y1<|Wm ?_;refine Wq (Bj rfl (Aa rfl)) ?_;refine Wm<|Y0<|AWp.block ?_
 refine AF (λv c=>∃k,k<=L.length/\v=L.length-k/\c=⟨[(0,.ptr 0 0),(2,.fn (272+1000000) [0]),(13,.d (FX L)),(14,.d (ex (.int .i64 (L.length:Nat)))),(15,.d (ex (.int .i64 (k:Nat))))],[.var 103 [.own 1],.row 5 1 (CR (b++BA L.length++(L.take k).flatMap GR)),.pin [(q,.own 0)]]⟩) ?le ⟨0,by omega,rfl,rfl⟩ ?round
 case le=>exact Zkr
 case round=>
  rintro v _ ⟨k,B,rfl,rfl⟩;by_cases O:k<L.length
  .have B:=Dg GR O
   have F:=Aa1 (L.getD k default) (m _ (BF O)) (b++BA L.length++(L.take k).flatMap GR) Zca;apply Y1;refine Wq Bc ?_;refine Y0<|Ah<|Ct<|Ys<|Ah<|AWp.block<|Y1 ?_;refine Wq (CD (k:=k) rfl (ao rfl) (Aa rfl) (Aa rfl) rfl O) ?_;refine Wq Cb ?_;refine Al ?_;refine Sf ?_;refine Y0<|AWp.region<|Wm ?_;refine Wq AD ?_
   refine AU [0,1] [0] [] (F) ZbC rfl rfl ZbF ZbD ZbL ZbB ZbH trivial rfl ?_;rintro _ _ ⟨rfl,rfl⟩;refine ZgO ?_;exact Ac ZbW (by exact HpLe.cons (Ad rfl)<|HpLe.cons (OwLe.row (by rw[Cm GR O,<-Yaf]))<|HpLe.cons (Ak rfl)<|HpLe.nil)
  .exact Zbc
theorem YO(l:List (Nat->RQ×RQ))(I:Fn (Gp VW) l):Wr 205 (FX l) (Fb l):=Wr.intro λb E=>by
 have F:=AaK l I b E;refine BC func205 rfl (Ag func205 ZbK ZbK) rfl λw x h=>?_;rw[ntmps205];refine Go ?_;refine ZfO ?_;rintro _ _ ⟨rfl,rfl⟩;refine ZhY ?_
 exact ZbA
theorem A2Q(s:RQ×List RTm)(Z:SqW s):Wr 211 (AQ (Jv s)) (Kz s):=Wr.intro λb E=>by
 simp only[Kz,Yaa]at E;have d:=Gu s.1 Z.1 (b) ZbO;have q:=QJ s.2 Z.2 (b++CG s.1) ZbO;refine BC func211 rfl (Ag func211 ZbK ZbK) rfl λw x h=>?_;rw[ntmps211];refine ZfL ?_;rintro _ _ ⟨rfl,rfl⟩;refine ZgW ?_;rintro _ _ ⟨rfl,rfl⟩;refine ZhY ?_
 first | refine Bs RetsA.none rfl ?_ rfl | refine AW RetsA.none rfl ?_ rfl
 exact⟨rfl,by simp only[Kz,Yaf];rfl⟩
theorem AaJ(L:List (Int))(m:Fn IW L):Wl 204 54 (Nw L) (Bt Bm L):=Wl.intro λb E=>by
 have h:=Dk (e:=Bm) (l:=L) λx _=>LN x;have Q:(Bt Bm L).length=(BA L.length).length+(L.flatMap Bm).length:=Zkq
 rw[Q]at E;have d:=Dj L.length ZbG b ZbG;refine BC func204 rfl (Ag func204 ZbK ZbK) rfl λw q A=>?_;rw[ntmps204];refine Y1<|Wm<|Wm ?_;refine Wq (Bj rfl (Aa rfl)) ?_;refine Wq (AP (r:=((L.length:Nat):Int)) (ao rfl) (Aa rfl) (Aa rfl) (ES ZbG)) ?_
 refine AU [0,1] [] [] (d) ZbC rfl rfl ZbF ZbD ZbL ZbB ZbH trivial rfl ?_;rintro _ _ ⟨rfl,rfl⟩;refine Kr ?_;refine Y0<|Y1<|Wm ?_;refine Wq (Bj rfl (Aa rfl)) ?_;refine Wm<|Y0<|AWp.block ?_
 refine AF (λv c=>∃k,k<=L.length/\v=L.length-k/\c=⟨[(0,.ptr 0 0),(2,.fn (54+1000000) [0]),(13,.d (Nw L)),(14,.d (ex (.int .i64 (L.length:Nat)))),(15,.d (ex (.int .i64 (k:Nat))))],[.var 103 [.own 1],.row 5 1 (CR (b++BA L.length++(L.take k).flatMap Bm)),.pin [(q,.own 0)]]⟩) ?le ⟨0,by omega,rfl,rfl⟩ ?round
 case le=>exact Zkr
 case round=>
  rintro v _ ⟨k,B,rfl,rfl⟩;by_cases O:k<L.length
  .have B:=Dg Bm O
   have F:=FL (L.getD k default) (m _ (BF O)) (b++BA L.length++(L.take k).flatMap Bm) Zca;apply Y1;refine Wq Bc ?_;refine Y0<|Ah<|Ct<|Ys<|Ah<|AWp.block<|Y1 ?_;refine Wq (CD (k:=k) rfl (ao rfl) (Aa rfl) (Aa rfl) rfl O) ?_;refine Wq AT ?_;refine Wa<|Y0<|AWp.region<|Wm<|Wm ?_
   refine AU [0,1] [0] [] (F) ZbC rfl rfl ZbF ZbD ZbL ZbB ZbH trivial rfl ?_;rintro _ _ ⟨rfl,rfl⟩;refine ZgO ?_;exact Ac ZbW (by exact HpLe.cons (Ad rfl)<|HpLe.cons (OwLe.row (by rw[Cm Bm O,<-Yaf]))<|HpLe.cons (Ak rfl)<|HpLe.nil)
  .exact Zbc
theorem AbJ(L:List (RQ×RQ))(m:Fn VW L):Wl 208 209 (VS L) (Bt GO L):=Wl.intro λb E=>by
 have h:=Dk (e:=GO) (l:=L) λx _=>Pa x;have Q:(Bt GO L).length=(BA L.length).length+(L.flatMap GO).length:=Zkq
 rw[Q]at E;have d:=Dj L.length ZbG b ZbG;refine BC func208 rfl (Ag func208 ZbK ZbK) rfl λw q A=>?_;rw[ntmps208];refine Y1<|Wm<|Wm ?_;refine Wq (Bj rfl (Aa rfl)) ?_;refine Wq (AP (r:=((L.length:Nat):Int)) (ao rfl) (Aa rfl) (Aa rfl) (ES ZbG)) ?_
 refine AU [0,1] [] [] (d) ZbC rfl rfl ZbF ZbD ZbL ZbB ZbH trivial rfl ?_;rintro _ _ ⟨rfl,rfl⟩;refine Kr ?_;refine Y0<|Y1<|Wm ?_;refine Wq (Bj rfl (Aa rfl)) ?_;refine Wm<|Y0<|AWp.block ?_
 refine AF (λv c=>∃k,k<=L.length/\v=L.length-k/\c=⟨[(0,.ptr 0 0),(2,.fn (209+1000000) [0]),(13,.d (VS L)),(14,.d (ex (.int .i64 (L.length:Nat)))),(15,.d (ex (.int .i64 (k:Nat))))],[.var 103 [.own 1],.row 5 1 (CR (b++BA L.length++(L.take k).flatMap GO)),.pin [(q,.own 0)]]⟩) ?le ⟨0,by omega,rfl,rfl⟩ ?round
 case le=>exact Zkr
 case round=>
  rintro v _ ⟨k,B,rfl,rfl⟩;by_cases O:k<L.length
  .have B:=Dg GO O
   have F:=PV (L.getD k default) (m _ (BF O)) (b++BA L.length++(L.take k).flatMap GO) Zca;apply Y1;refine Wq Bc ?_;refine Y0<|Ah<|Ct<|Ys<|Ah<|AWp.block<|Y1 ?_;refine Wq (CD (k:=k) rfl (ao rfl) (Aa rfl) (Aa rfl) rfl O) ?_;refine Wq Cb ?_;refine Al ?_;refine Sf ?_;refine Y0<|AWp.region<|Wm ?_;refine Wq AD ?_
   refine AU [0,1] [0] [] (F) ZbC rfl rfl ZbF ZbD ZbL ZbB ZbH trivial rfl ?_;rintro _ _ ⟨rfl,rfl⟩;refine ZgO ?_;exact Ac ZbW (by exact HpLe.cons (Ad rfl)<|HpLe.cons (OwLe.row (by rw[Cm GO O,<-Yaf]))<|HpLe.cons (Ak rfl)<|HpLe.nil)
  .exact Zbc
theorem AbH(L:List (RQ×List RTm))(m:Fn SqW L):Wl 210 211 (Vk L) (Bt Kz L):=Wl.intro λb E=>by
 have h:=Dk (e:=Kz) (l:=L) λx _=>ZZ x;have Q:(Bt Kz L).length=(BA L.length).length+(L.flatMap Kz).length:=Zkq
 rw[Q]at E;have d:=Dj L.length ZbG b ZbG;refine BC func210 rfl (Ag func210 ZbK ZbK) rfl λw q A=>?_;rw[ntmps210];refine Y1<|Wm<|Wm ?_;refine Wq (Bj rfl (Aa rfl)) ?_;refine Wq (AP (r:=((L.length:Nat):Int)) (ao rfl) (Aa rfl) (Aa rfl) (ES ZbG)) ?_
 refine AU [0,1] [] [] (d) ZbC rfl rfl ZbF ZbD ZbL ZbB ZbH trivial rfl ?_;rintro _ _ ⟨rfl,rfl⟩;refine Kr ?_;refine Y0<|Y1<|Wm ?_;refine Wq (Bj rfl (Aa rfl)) ?_;refine Wm<|Y0<|AWp.block ?_
 refine AF (λv c=>∃k,k<=L.length/\v=L.length-k/\c=⟨[(0,.ptr 0 0),(2,.fn (211+1000000) [0]),(13,.d (Vk L)),(14,.d (ex (.int .i64 (L.length:Nat)))),(15,.d (ex (.int .i64 (k:Nat))))],[.var 103 [.own 1],.row 5 1 (CR (b++BA L.length++(L.take k).flatMap Kz)),.pin [(q,.own 0)]]⟩) ?le ⟨0,by omega,rfl,rfl⟩ ?round
 case le=>exact Zkr
 case round=>
  rintro v _ ⟨k,B,rfl,rfl⟩;by_cases O:k<L.length
  .have B:=Dg Kz O
   have F:=A2Q (L.getD k default) (m _ (BF O)) (b++BA L.length++(L.take k).flatMap Kz) Zca;apply Y1;refine Wq Bc ?_;refine Y0<|Ah<|Ct<|Ys<|Ah<|AWp.block<|Y1 ?_;refine Wq (CD (k:=k) rfl (ao rfl) (Aa rfl) (Aa rfl) rfl O) ?_;refine Wq Cb ?_;refine Al ?_;refine Sf ?_;refine Y0<|AWp.region<|Wm ?_;refine Wq AD ?_
   refine AU [0,1] [0] [] (F) ZbC rfl rfl ZbF ZbD ZbL ZbB ZbH trivial rfl ?_;rintro _ _ ⟨rfl,rfl⟩;refine ZgO ?_;exact Ac ZbW (by exact HpLe.cons (Ad rfl)<|HpLe.cons (OwLe.row (by rw[Cm Kz O,<-Yaf]))<|HpLe.cons (Ak rfl)<|HpLe.nil)
  .exact Zbc
theorem AbI(L:List (Nat->RQ))(m:Fn (Gp QB) L):Wl 212 213 (A0c L) (Bt Qp L):=Wl.intro λb E=>by
 have h:=Dk (e:=Qp) (l:=L) λx _=>Ie Jc x;have Q:(Bt Qp L).length=(BA L.length).length+(L.flatMap Qp).length:=Zkq
 rw[Q]at E;have d:=Dj L.length ZbG b ZbG;refine BC func212 rfl (Ag func212 ZbK ZbK) rfl λw q A=>?_;rw[ntmps212];refine Y1<|Wm<|Wm ?_;refine Wq (Bj rfl (Aa rfl)) ?_;refine Wq (AP (r:=((L.length:Nat):Int)) (ao rfl) (Aa rfl) (Aa rfl) (ES ZbG)) ?_
 refine AU [0,1] [] [] (d) ZbC rfl rfl ZbF ZbD ZbL ZbB ZbH trivial rfl ?_;rintro _ _ ⟨rfl,rfl⟩;refine Kr ?_;refine Y0<|Y1<|Wm ?_;refine Wq (Bj rfl (Aa rfl)) ?_;refine Wm<|Y0<|AWp.block ?_
 refine AF (λv c=>∃k,k<=L.length/\v=L.length-k/\c=⟨[(0,.ptr 0 0),(2,.fn (213+1000000) [0]),(13,.d (A0c L)),(14,.d (ex (.int .i64 (L.length:Nat)))),(15,.d (ex (.int .i64 (k:Nat))))],[.var 103 [.own 1],.row 5 1 (CR (b++BA L.length++(L.take k).flatMap Qp)),.pin [(q,.own 0)]]⟩) ?le ⟨0,by omega,rfl,rfl⟩ ?round
 case le=>exact Zkr
 case round=>
  rintro v _ ⟨k,B,rfl,rfl⟩;by_cases O:k<L.length
  .have B:=Dg Qp O
   have F:=A5a (L.getD k default) (m _ (BF O)) (b++BA L.length++(L.take k).flatMap Qp) Zca;apply Y1;refine Wq Bc ?_;refine Y0<|Ah<|Ct<|Ys<|Ah<|AWp.block<|Y1 ?_;refine Wq (CD (k:=k) rfl (ao rfl) (Aa rfl) (Aa rfl) rfl O) ?_;refine Wq Cb ?_;refine Al ?_;refine Sf ?_;refine Y0<|AWp.region<|Wm ?_;refine Wq AD ?_
   refine AU [0,1] [0] [] (F) ZbC rfl rfl ZbF ZbD ZbL ZbB ZbH trivial rfl ?_;rintro _ _ ⟨rfl,rfl⟩;refine ZgO ?_;exact Ac ZbW (by exact HpLe.cons (Ad rfl)<|HpLe.cons (OwLe.row (by rw[Cm Qp O,<-Yaf]))<|HpLe.cons (Ak rfl)<|HpLe.nil)
  .exact Zbc
theorem WG{o:Oper}{lo K:Option Operand}{B j:Int}(e:o.op=.slice t x lo K none)(I:HV H (vz x)=some (slD k g vm))(N:Tab P t (.slice n) b T z)(a:Tab P n d m c u)(v:m=g)(xd:(∃y,lo=some y/\vz y=.d (ex (.int i B)))\/(lo=none/\B=0))(xi:(∃y,K=some y/\vz y=.d (ex (.int i j)))\/(K=none/\j=vm.length))(S:0<=B)(xb:B<=j)(W:j<=vm.length):Quiet P H o vz (.d (slD k g ((vm.take j.toNat).drop B.toNat))):=by
 refine⟨λbase s X V Z xc R h=>?_⟩;obtain⟨A,F,Q,C,E,M⟩:=Ex R (h x (by rw[e];simp[Op.operands])) I;subst v;obtain⟨B,rfl⟩:=YbH S;obtain⟨j,rfl⟩:=YbH (Yel S xb);have xj:B<=j:=by omega
 have xh:j<=vm.length:=by omega
 have xm:∃xg,lo.map V=xg/\((xg=some (.int i B))\/(xg=none/\B=0)):=by
  rcases xd with⟨y,rfl,O⟩ | ⟨rfl,hi0⟩
  .exact Zbd
  .exact ZjH
 have xl:∃xe,K.map V=xe/\((xe=some (.int i j))\/(xe=none/\j=vm.length)):=by
  rcases xi with⟨y,rfl,O⟩ | ⟨rfl,hi0⟩
  .exact Zbd
  .exact ZjH
 obtain⟨xg,r,f⟩:=xm;obtain⟨xe,U,w⟩:=xl;have xk:(j:Int)<=F:=by omega
 have xf:(B:Int)<=j:=by omega
 have J:(Instr.sliceBounds true vm.length F xg xe none).run P s.w=.ok (B,j,F) s.w:=by
  rcases f with rfl | ⟨rfl,rfl⟩<;>rcases w with rfl | ⟨rfl,rfl⟩<;>simp[Instr.sliceBounds,Instr.sliceBound,asIntOf,xk,xf,xj,xh,C]
  all_goals first | omega | simp[xj,xh,C] | skip
 have xa:(execOp V o).run P s.w=.ok (.value (.slice (if F=B then A else A.map (·.add (B*m))) (j-B) (F-B))) s.w:=by
  simp only[execOp,e,r,U,Q,YeC,Instr.sliceAt,Sem.run_bind,run_underlying N.und,Result.andThen_ok,Instr.slice,J,a.run_size,Sem.run_pure]
 have l:((vm.take (j:Int).toNat).drop (B:Int).toNat).length=j-B:=ZiB
 refine Cd xa ⟨GS.Le.refl s,(if F=B then A else A.map (·.add (B*m))),F-B,by rw[l],by rw[l];omega,by omega,λH=>?_⟩;rw[l]at H;obtain⟨L,p,rfl,Y⟩:=M ZbG;refine⟨L,p+B*m,?_,λq G=>?_⟩
 .rw [Yai ZbG]
  simp[Addr.add_lit]
 .rw [l]at G
  rw[show(j:Int).toNat=j from rfl,show(B:Int).toNat=B from rfl];rw[Uj,OH ZbG];have:=Y (B+q) ZbG;exact Zjj
theorem US{hp:List Ow}{arg:Operand->AV}{dd:Option Tmp}{ty:TypeId}{ps:String}{af:Array Edge}{gd:Option (Nat×Bool)}{lo hi:Option Operand}{rows:List (List D)}{κ:IntKind}{i j:Int}(C:HV hp (arg x)=some (slD k g rows))(L:Tab P U (.slice n) b T z)(a:Tab P n d m c u)(t:m=g)(A:(∃y,lo=some y/\arg y=.d (ex (.int κ i)))\/(lo=none/\i=0))(B:(∃y,hi=some y/\arg y=.d (ex (.int κ j)))\/(hi=none/\j=rows.length))(q:0<=i)(r:i<=j)(W:j<=rows.length):Quiet P hp ⟨dd,.slice U x lo hi none,ty,ps,af,gd⟩ arg (.d (slD k g ((rows.take j.toNat).drop i.toNat))):=WG (o:=⟨dd,.slice U x lo hi none,ty,ps,af,gd⟩) rfl C L a t A B q r W
theorem EJ{v:Value}(C:vz x=.d (ex v))(F:Tab P U (.int i) n b u):Quiet P H ⟨vB,.makeInterface U x,t,vG,vH,vQ⟩ vz (.d (ex (.iface U v))):=by
 refine⟨λbase s X B E z Z h=>?_⟩;have q:=h x ZcW;rw[C]at q;have A:B x=v:=q;refine Cd (v:=.iface U v) ?_ ⟨GS.Le.refl s,rfl⟩;simp[execOp,A,Instr.makeInterface,run_underlying F.und]
theorem A63(b:List Nat)(n:Nat):(CR b).take n=CR (b.take n):=by simp[CR,YdV]
theorem A65(b:List Nat)(n:Nat):(CR b).drop n=CR (b.drop n):=by simp[CR,YdU]
theorem DA{e n b T:Nat}(C:vz x=.d (Hf T l))(L:Tab P U (.slice e) n b z):Quiet P H ⟨vB,.call { callee:=.builtin .len,args:=#[x],argTypes:=#[U] },t,vG,vH,vQ⟩ vz (.d (ex (.int .i64 (l.length:Nat)))):=Bj (f:=λz:Nat=>[ex (.int .u8 (z:Nat))]) (by rw[C];rfl) L
theorem A6w{hp:List Ow}{arg:Operand->AV}{dd:Option Tmp}{ty:TypeId}{ps:String}{af:Array Edge}{gd:Option (Nat×Bool)}{κ:IntKind}(C:arg x=.d (Hf k l))(N:arg y=.d (ex (.int κ (g:Nat))))(L:Tab P U (.slice n) b T z)(a:Tab P n d m c u)(t:m=1)(B:g<=l.length):Quiet P hp ⟨dd,.slice U x none (some y) none,ty,ps,af,gd⟩ arg (.d (Hf k (l.take g))):=by
 have h:=US (P:=P) (hp:=hp) (arg:=arg) (dd:=dd) (ty:=ty) (ps:=ps) (af:=af) (gd:=gd) (lo:=none) (hi:=some y) (rows:=CR l) (κ:=κ) (i:=0) (j:=(g:Nat)) (by rw[C];rfl) L a t (.inr ⟨rfl,rfl⟩) (.inl ⟨y,rfl,N⟩) ZbG ZbG (by rw[Dc];omega);rw[show((g:Nat):Int).toNat=g from rfl,A63]at h;exact h
theorem A6A{hp:List Ow}{arg:Operand->AV}{dd:Option Tmp}{ty:TypeId}{ps:String}{af:Array Edge}{gd:Option (Nat×Bool)}{κ:IntKind}(C:arg x=.d (Hf k l))(N:arg y=.d (ex (.int κ (g:Nat))))(L:Tab P U (.slice n) b T z)(a:Tab P n d m c u)(t:m=1)(B:g<=l.length):Quiet P hp ⟨dd,.slice U x (some y) none none,ty,ps,af,gd⟩ arg (.d (Hf k (l.drop g))):=by
 have h:=US (P:=P) (hp:=hp) (arg:=arg) (dd:=dd) (ty:=ty) (ps:=ps) (af:=af) (gd:=gd) (lo:=some y) (hi:=none) (rows:=CR l) (κ:=κ) (i:=(g:Nat)) (j:=((CR l).length:Nat)) (by rw[C];rfl) L a t (.inl ⟨y,rfl,N⟩) (.inr ⟨rfl,rfl⟩) ZbG (by rw[Dc];omega) ZbG;rw[show((g:Nat):Int).toNat=g from rfl,show(((CR l).length:Nat):Int).toNat=(CR l).length from rfl,YaT,A65]at h;exact h
theorem ConP.cut{Q S:AV->List Ow->Prop}{L:List PanicEntry}{N:Prop}(h:ConP P ve R H Q L N)(k:∀r C,Q r C->A8O r=true/\(∀(i:Nat) o,(C.take H.length)[i]? = some o->o.below H.length)/\S r (C.take H.length)):ConP P ve R H S L N:=
 ⟨h.1,λs X J q A K Y n=>(h.2 s X J q A K Y n).mono λe M F=>F.imp (λ⟨v,a,j,G,r,C,I,c,V,l⟩=>by
  obtain⟨B,E,O⟩:=k r C I
  cases r with
  |d x=>exact⟨v,a,j,G,.d x,_,O,c,V,l.take E⟩
  |_=>cases B) λh=>h⟩
abbrev rH(T:TypeId)(l:List Nat):List Ow:=[.var 92 [.d (Hf T l)]]
abbrev rCh:List PanicEntry:=[{ v:=.iface 49 (.int .i64 3),recovered:=false }]
structure Byt(l:List Nat):Prop where
 lt:∀z∈l,z<256
 len:l.length<=1000000000
theorem Byt.drop(h:Byt l)(k:Nat):Byt (l.drop k):=⟨λz u=>h.lt z (Yci u),by rw[YbS];have:=h.len;omega⟩
theorem RJ(h:H.take 1=rH t l):∀(i:Nat) o,(H.take 1)[i]? = some o->o.below 1:=λi o J=>by
 rw[h]at J
 match i,J with
 |0,J=>cases J;intro I O;rw[Yaz.1 O];rfl
def Rdr{F:Type}(f:FuncId)(d:F->D)(p:Rd F):Prop:=∀(T:TypeId) l,Byt l->ConP prog f [.ptr 0 0] (rH T l) (λr H=>∃x J,p l=some (x,J)/\Byt J/\r=.d (d x)/\H=rH T J) rCh (p l=none)
theorem Rdr.intro{f:FuncId}{d:e->D}{p:Rd e}(h:∀(T:TypeId) l,Byt l->ConP prog f [.ptr 0 0] (rH T l) (λr H=>∃x J,p l=some (x,J)/\Byt J/\r=.d (d x)/\H.take 1=rH T J) rCh (p l=none)):Rdr f d p:=λT l I=>(h T l I).cut λr H ⟨x,J,q,A,K,Y⟩=>by
 subst K;exact⟨rfl,RJ Y,x,J,q,A,rfl,Y⟩
theorem A27(T:TypeId)(l:List Nat)(I:Byt l)(n:Nat)(B:n<1000):ConP prog 305 [.ptr 0 0,.d (ex (.int .u64 (n:Nat)))] (rH T l) (λr H=>n<=l.length/\r=.d (Hf T (l.take n))/\H=rH T (l.drop n)) rCh (l.length<n):=by
 refine ConP.cut (Q:=λr H=>n<=l.length/\r=.d (Hf T (l.take n))/\H.take 1=rH T (l.drop n)) ?_ λr H ⟨q,A,K⟩=>by
  subst A;exact⟨rfl,RJ K,q,rfl,K⟩
 have C:=I.len;have E:=Dc l;refine Bu func305 rfl (Ag func305 ZbK ZbK) rfl λw x=>?_;rw[ntmps305];refine Y1<|Wa<|Y0<|Ah<|Y1<|Wm<|Wm ?_;refine Wq (Ca (ao rfl)) ?_;refine Wq AC ?_;refine Wq Cn ?_;refine Wq (DA (ao rfl) (Aa rfl)) ?_;refine Wq (AP (r:=((l.length:Nat):Int)) (ao rfl) (Aa rfl) (Aa rfl) (ES ZbG)) ?_;refine Wq Ci ?_;apply Y0
 by_cases h:l.length<n
 .refine Zhd ?_
  refine Dq (ao rfl) ?_;exact(by repeat (first | exact AN (h) | apply AH | apply PanQ.block | apply PanQ.loop):PanQ _ _) _
 .refine Go ?_;refine Wq (Ca (ao rfl)) ?_;refine Go ?_;refine Wq (A6w (ao rfl) (ao rfl) (Aa rfl) (Aa rfl) rfl ZbG) ?_;refine Go ?_;refine Wq (Ca (ao rfl)) ?_;refine Go ?_;refine Wq (A6A (ao rfl) (ao rfl) (Aa rfl) (Aa rfl) rfl ZbG) ?_;refine Wq (Ca (ao rfl)) ?_;refine Wq AC ?_;refine Ep (ao rfl) (ao rfl) rfl (Aa rfl) CX rfl rfl ?_;refine Go ?_
  refine FinP.ret (RetsA.one rfl) rfl ?_ rfl;exact⟨by omega,rfl,rfl⟩
def Wb(f:FuncId)(x:D)(e:List Nat):Prop:=∀b,b.length+e.length<=1000000000000->Con prog f [.own 0,.d x] [.row 5 1 (CR b)] [0] (λr H=>r=.own 0/\H=[.row 5 1 (CR (b++e))])
theorem Con.cutB(h:Con P ve R H l vy)(k:∀r F,vy r F->r.below H.length=true/\(∀(i:Nat) o,(F.take H.length)[i]? = some o->o.below H.length)/\xf r (F.take H.length)):Con P ve R H l xf:=
 ⟨h.1,λs X G q A K Y n=>(h.2 s X G q A K Y n).mono λe M ⟨v,a,j,L,r,F,O,c,V,C⟩=>by
  obtain⟨B,E,Q⟩:=k r F O;have I:(F.take H.length).length=H.length:=by rw[YaO];have:=C.len;omega
  refine⟨v,a,j,L,r,_,Q,c,?_,C.take E⟩;rw[I]
  cases r with
  |d x=>exact V
  |ptr i off=>exact Zks
  |own i=>exact Zks
  |fn ve N=>exact⟨λi J=>by have:=Yaj.1 B i J;simpa[Ybh]using this,V.2⟩⟩
theorem Wb.intro{f:FuncId}{x:D}{e:List Nat}(h:∀b,b.length+e.length<=1000000000000->Con prog f [.own 0,.d x] [.row 5 1 (CR b)] [0] (λr H=>r=.own 0/\H.take 1=[.row 5 1 (CR (b++e))])):Wb f x e:=λb E=>(h b E).cutB λr H ⟨q,A⟩=>by
 subst q;refine⟨rfl,λi o J=>?_,rfl,A⟩;have A:H.take 1=[.row 5 1 (CR (b++e))]:=A;change (H.take 1)[i]? = some o at J;rw[A]at J
 match i,J with
 |0,J=>cases J;trivial
theorem Dn(p:P.funcs[ve]? = some vO)(E:vO.body=some vp)(i:∀R w,(callFunc ve R).run P w=.ok (.enter ve R) w)(q:Nat.ble R.length vO.ntmps=true)
  (h:∀(A:An) (S:Value),AWp P A vO.ntmps vp (FinC P vO [0] [S] vy) ⟨Je 0 R,[vt,.pin []]⟩):Con P ve R [vt] [0] vy:=
 Tl p E i q λA J r=>by
  match J,r with
  |[S],_=>exact h A S
section
variable {P:Program} {hp:List Ow} {arg:Operand->AV} {dd:Option Tmp} {ty:TypeId} {ps:String} {af:Array Edge} {gd:Option (Nat×Bool)} {T U:TypeId} {x y:Operand} {k:IntKind} {a b r:Int}
theorem Mf(C:arg x=.d (ex (.int k a)))(N:arg y=.d (ex (.int k b)))(E:b≠0)(V:a.tmod b=r):Quiet P hp ⟨dd,.binOp .rem T x y U,ty,ps,af,gd⟩ arg (.d (ex (.int k r))):=
 CM rfl C N λw=>by simp[eqGuard,binOp,Op.intDiv,E,V]
theorem Ar{E:Array Field}{f n b g A id off r:Nat}{S:Field}(C:arg x=.ptr id off)(B:Tab P t (.struct E) n b z)(p:E[f]? = some S)(q:Tab P S.type d g A u)(h:Nat.beq g 0=false)(V:off+S.offset=r):Quiet P hp ⟨dd,.fieldAddr t x f,ty,ps,af,gd⟩ arg (.ptr id r):=V▸Ik C B p q h
end
theorem GL(n:Nat)(A:n<18446744073709551616):Wb 118 (ex (.int .u64 (n:Nat))) (BA n):=Wb.intro λb E=>by
 refine Dn func118 rfl (Ag func118 ZbK ZbK) rfl λw=>?_;rw[ntmps118];intro S;refine Go ?_;refine AF (λv c=>∃z g,v=g/\g<18446744073709551616/\z++BA g=b++BA n/\c=⟨[(0,.own 0),(1,.d (ex (.int .u64 (g:Nat))))],[.row 5 1 (CR z),.pin []]⟩) ?le ⟨b,n,rfl,A,rfl,rfl⟩ ?round
 case le=>exact Ac ZeJ (by exact Yr<|HpLe.cons (Ak rfl)<|HpLe.nil)
 case round=>
  rintro g _ ⟨z,_,rfl,m,a,rfl⟩;have B:(z++BA g).length=(b++BA n).length:=by rw[a]
  rw[Yaa,Yaa]at B;have C:=II g;by_cases h:128<=g
  .have q:BA g=(g%128+128)::BA (g/128):=by rw [BA, Yai ZbG]
   have y:BA g=[g%128+128]++BA (g/128):=q;rw[q,Yay]at B;have I:=Dc z;have r:=II (g/128);refine Ah<|Y1<|Wm ?_;refine Wq Bc ?_;refine Y0<|Ct<|Ys<|AWp.block<|Y1<|Wm<|Wm ?_;refine Wq (Mf (r:=((g%128:Nat):Int)) (ao rfl) (ao rfl) ZbL Zdd) ?_;refine Wq (AP (r:=((g%128:Nat):Int)) (ao rfl) (Aa rfl) (Aa rfl) ZcH) ?_;refine Wq (DP (r:=((g%128+128:Nat):Int)) (ao rfl) (ao rfl) ZcH) ?_;(refine Df rfl rfl ?_;(refine DG (Aa rfl) (Aa rfl) rfl rfl rfl rfl rfl ?_;(repeat ((first | refine⟨_,Az (ao rfl),?_⟩ | refine⟨_,Po rfl,?_⟩);refine⟨_,rfl,?_⟩));refine⟨_,rfl,?_⟩));(refine EB (r2:=[[ex (.int .u8 ((g%128+128:Nat):Int))]]) (ao rfl) rfl rfl (Aa rfl) (Aa rfl) rfl rfl Zdv Zdv rfl ZbM rfl ?_);refine Wa<|Y0<|AWp.region<|Wm ?_;refine Wq (GU (r:=((g/128:Nat):Int)) (ao rfl) (ao rfl) ZbL ZcQ) ?_;refine Wa<|AWl.nil<|Bi ?_
   refine Ai (g/128) ZbG ⟨z++[g%128+128],g/128,rfl,by omega,by rw[Yaf,<-y];exact a,rfl⟩ ?_;exact Ac ZeJ (by(refine HpLe.cons (OwLe.row (by rw[IP];rfl)) ?_);exact HpLe.cons (Ak rfl)<|HpLe.nil)
  .have q:BA g=[g]:=by rw [BA, Yan ZbG]
   rw[q,Yay]at B;rw[q]at a;have I:=Dc z;refine Ah<|Y1<|Wm ?_;refine Wq AO ?_;refine Y0<|Cf<|Cg<|BD<|BS<|BI<|Yn<|Y1<|Wm<|Wm ?_;refine Wq (AP (r:=((g:Nat):Int)) (ao rfl) (Aa rfl) (Aa rfl) ZcH) ?_;(refine Df rfl rfl ?_;(refine DG (Aa rfl) (Aa rfl) rfl rfl rfl rfl rfl ?_;(repeat ((first | refine⟨_,Az (ao rfl),?_⟩ | refine⟨_,Po rfl,?_⟩);refine⟨_,rfl,?_⟩));refine⟨_,rfl,?_⟩));(refine EB (r2:=[[ex (.int .u8 ((g:Nat):Int))]]) (ao rfl) rfl rfl (Aa rfl) (Aa rfl) rfl rfl Zdv Zdv rfl ZbM rfl ?_);refine Wa<|Y0<|BV ?_
   first | refine Bs (RetsA.one rfl) rfl ?_ rfl | refine AW (RetsA.one rfl) rfl ?_ rfl
   exact⟨rfl,by rw[<-a,IP];rfl⟩
theorem Fi(z:Int)(u:IW z):Wb 52 (ex (.int .i64 z)) (Bm z):=Wb.intro λb E=>by
 obtain⟨q,A⟩:=u;by_cases h:0<=z
 .have e:Bm z=BA (2*z.toNat):=by rw [Bm, TI, Yai ZbG]
  rw[e]at E ⊢;have F:=GL (2*z.toNat) ZbG b E;refine Dn func52 rfl (Ag func52 ZbK ZbK) rfl λw=>?_;rw[ntmps52];intro S;refine Y1<|Wa<|Y0<|Ah<|Y1<|Wm ?_;refine Wq AO ?_;refine Y0<|Cf<|Ys<|Y1<|Wm<|Wm ?_;refine Wq (AP (r:=((z.toNat:Nat):Int)) (ao rfl) (Aa rfl) (Aa rfl) ZcN) ?_;refine Wq (GV (r:=((2*z.toNat:Nat):Int)) (ao rfl) (ao rfl) ZcN) ?_
  exact Zbe
 .have e:Bm z=BA (2*(-(z+1)).toNat+1):=by rw [Bm, TI, Yan ZbG]
  rw[e]at E ⊢;have F:=GL (2*(-(z+1)).toNat+1) ZbG b E;refine Dn func52 rfl (Ag func52 ZbK ZbK) rfl λw=>?_;rw[ntmps52];intro S;refine Y1<|Wa<|Y0<|Ah<|Y1<|Wm ?_;refine Wq Bc ?_;refine Y0<|Ct<|Y1<|Wm<|Wm ?_;refine Wq WF ?_;refine Wq A0Y ?_;refine Wq (AP (r:=(((-(z+1)).toNat:Nat):Int)) (ao rfl) (Aa rfl) (Aa rfl) ZcN) ?_;refine Wq (GV (r:=((2*(-(z+1)).toNat:Nat):Int)) (ao rfl) (ao rfl) ZcN) ?_;refine Wq (DP (r:=((2*(-(z+1)).toNat+1:Nat):Int)) (ao rfl) (ao rfl) ZcN) ?_
  exact Zbe
end
