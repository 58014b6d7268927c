/- Part 23. No condition. -/
import Derived.Laws.BytesString
import Derived.Laws.Cells
import Derived.Laws.Strings
import Derived.Test.YtcikkglcoeedlaaGreatBk18
import Derived.Test.YtcikkglcoeedlaaGreatBk19
import Derived.Test.YtcikkglcoeedlaaGreatBk20
set_option linter.unusedSimpArgs false
set_option linter.unusedVariables false
set_option maxRecDepth 100000
namespace Go.Proofs.YtcikkglcoeedlaaGreat
open _root_.Go.Proofs.Tryz
variable{vy xf:AV->List Ow->Prop}{vK:Array Edge}{vt:Array TypeId}{vp:Code}{r vw:D}{vP:Func}{vd:FuncId}{s:GS}{vm:List (List D)}{i:List AV}{v vn:List D}{l f vo:List Nat}{vO:List Operand}{H vz:List Ow}{n b T m c k h:Nat}{uU:Nat->List D}{x y:Operand}{vC:Operand->AV}{vV:Option (Nat×Bool)}{vF:Option Tmp}{vs uE:Ow}{P:Program}{vJ:String}{e:Type}{d:TypeDesc}{t U:TypeId}{z u uk:Value}
section
open Go.RowKit
def Da(b:List Nat):List (List D):=b.map λz=>[ex (.int .u8 (z:Nat))]
def GX(T:TypeId)(b:List Nat):D:=slD T 1 (Da b)
def byS(b:List Nat):ByteArray:=(b.map λz:Nat=>(z:Int)).foldl (λr n=>r.push (UInt8.ofNat n.toNat)) ByteArray.empty
def stD(b:List Nat):D:=ex (.string (byS b))
theorem Db(b:List Nat):(Da b).length=b.length:=by simp[Da]
theorem A5P{k:Nat}(h:k<l.length):(Da l).getD k []=[ex (.int .u8 ((l.getD k 0:Nat):Int))]:=by
 simp[Da,h]
theorem IJ(b c:List Nat):Da (b++c)=Da b++Da c:=by simp[Da]
theorem YD:∀(b:List Nat) (r:ByteArray),((b.map λz:Nat=>(z:Int)).foldl (λr n=>r.push (UInt8.ofNat n.toNat)) r).data=r.data++(b.map UInt8.ofNat).toArray
 |[],r=>by simp
 |z::b,r=>by
  rw[Ybf,Ydv,YD b];simp
theorem YC(b:List Nat):(byS b).toList=b.map UInt8.ofNat:=by
 rw[ByteArray.toList_eq,byS,YD];simp
theorem A4l:∀{b c:List Nat},(∀z∈b,z<256)->(∀z∈c,z<256)->b.map UInt8.ofNat=c.map UInt8.ofNat->b=c
 |[],[],_,_,_=>rfl
 |[],_::_,_,_,h=>by simp at h
 |_::_,[],_,_,h=>by simp at h
 |z::b,y::c,F,I,h=>by
  simp only[Ybf,List.cons.injEq]at h;have Z:=congrArg UInt8.toNat h.1;rw[UInt8.toNat_ofNat',UInt8.toNat_ofNat',YaS (F z Ybn),YaS (I y Ybn)]at Z;rw[Z,A4l (λx E=>F x (Ybc _ E)) (λx E=>I x (Ybc _ E)) h.2]
theorem A2d(F:∀z∈l,z<256)(I:∀z∈f,z<256):((byS l).toList==(byS f).toList)=decide (l=f):=by
 rw[YC,YC];by_cases h:l=f
 .subst h;simp
 .rw [Yad h]
  exact beq_eq_false_iff_ne.2 λe=>h (A4l F I e)
theorem A7X(w:World)(l:List Nat)(A:Option Addr)(c:Nat)(S:0<(Da l).length->∃b o,A=some ⟨b,o,none⟩/\(∀k,k<(Da l).length->((Da l).getD k []).length=1/\Lies s b (o+k*1) n ((Da l).getD k [])))(d:w=s.w):(Conv.bytesToString (.slice A l.length c)).run P w=.ok (.string (byS l)) w:=by
 subst d;by_cases C:0<l.length
 .obtain ⟨g, o, rfl, E⟩:=S (by rw [Db]; exact C)
  refine run_bytesToString s.w ⟨g,o,none⟩ l.length c (l.map λz:Nat=>(z:Int)) ?_
  have:=run_loadCells (P:=P) (w:=s.w) ⟨g,o,none⟩ l.length (λj=>.int .u8 ((l.getD j 0:Nat):Int)) λj B=>by
   obtain⟨-,G⟩:=E j (by rw[Db];exact B);rw[A5P B]at G;obtain⟨u,I,-,y⟩:=G.cell (k:=0) ZbS;have y:u=.int .u8 ((l.getD j 0:Nat):Int):=y;rw[y]at I
   have H:(⟨g,o,none⟩:Addr).add j=⟨g,o+j,none⟩:=by
    unfold Addr.add;split
    .rename_i C;subst C;rfl
    .rfl
   rw[H];simpa using I
  rw[this];congr 1;apply Array.ext';apply Ycb;intro j;simp;by_cases B:j<l.length
  .simp [B]
  .simp [B]
 .obtain rfl:l=[]:=YaF ZbD
  have F:∀A c,(Conv.bytesToString (.slice A 0 c)).run P s.w=.ok (.string ByteArray.empty) s.w:=λA c=>by
   cases A with
   |none=>rfl
   |some a=>exact run_bytesToString s.w a 0 c [] rfl
  exact F A c
section
variable {P:Program} {hp:List Ow} {arg:Operand->AV} {dd:Option Tmp} {ty:TypeId} {ps:String} {af:Array Edge} {gd:Option (Nat×Bool)}
theorem HJ{S T E n b g y e J Q:Nat}(F:HW hp (arg x)=some (GX Q l))(r:Tab P S (.slice E) n b z)(V:Tab P E (.int .u8) e J uk)(k:Tab P T .string g y u):Quiet P hp ⟨dd,.convert S T x,ty,ps,af,gd⟩ arg (.d (stD l)):=by
 refine⟨λbase s W i I K d h=>?_⟩;have B:=Ew d (h x ZcQ) F;obtain⟨A,c,Z,C,L,G⟩:=B;rw[Db]at Z C;refine Cc (v:=.string (byS l)) ?_ ⟨GS.Le.refl s,rfl⟩
 have key:(convert S T (i x)).run P s.w=.ok (.string (byS l)) s.w:=by
  rw[Z,run_convert_bytes_string s.w S T E A l.length c r.und V.und k.und];exact A7X s.w l A c G rfl
 simp only[execOp,Sem.run_bind,key,Result.andThen_ok,Sem.run_pure]
theorem A6i{b c:List Nat}(E:arg x=.d (stD b))(O:arg y=.d (stD c))(F:∀z∈b,z<256)(I:∀z∈c,z<256):Quiet P hp ⟨dd,.binOp .eql t x y U,ty,ps,af,gd⟩ arg (.d (ex (.bool (decide (b=c))))):=
 CN rfl E O λw=>by
  have:=A2d F I;simp only[eqGuard,binOp,Op.stringOp,this];rfl
theorem Zd{T U:TypeId}{b c:List Nat}(E:arg x=.d (stD b))(O:arg y=.d (stD c))(F:∀z∈b,z<256)(I:∀z∈c,z<256):Quiet P hp ⟨dd,.binOp .neq T x y U,ty,ps,af,gd⟩ arg (.d (ex (.bool (!decide (b=c))))):=
 CN rfl E O λw=>by
  have:=A2d F I;simp only[eqGuard,binOp,Op.stringOp,this];rfl
end
def GL(c:Nat->List D):List D:=c 0++(c 1++(c 2++(c 3++(c 4++(c 5++(c 6++c 7))))))
theorem Ev{c:Nat->List D}(h:∀i,(c i).length=n):(GL c).length=8*n:=by
 simp only[GL,Yaa,h];omega
theorem Vv(h:∀b,(uU b).length=n)(K:b<8)(l:T<n):(GL uU)[b*n+T]? = (uU b)[T]?:=by
 unfold GL
 match b,K with
 |0,_=>rw[Yau Zcn];exact Zhc
 |1,_=>rw[Yal Zcn,h,Yau Zcn];exact Zhc
 |2,_=>rw[Yal Zcn,h,Yal Zcn,h,Yau Zcn];exact Zhc
 |3,_=>rw[Yal Zcn,h,Yal Zcn,h,Yal Zcn,h,Yau Zcn];exact Zhc
 |4,_=>rw[Yal Zcn,h,Yal Zcn,h,Yal Zcn,h,Yal Zcn,h,Yau Zcn];exact Zhc
 |5,_=>rw[Yal Zcn,h,Yal Zcn,h,Yal Zcn,h,Yal Zcn,h,Yal Zcn,h,Yau Zcn];exact Zhc
 |6,_=>rw[Yal Zcn,h,Yal Zcn,h,Yal Zcn,h,Yal Zcn,h,Yal Zcn,h,Yal Zcn,h,Yau Zcn];exact Zhc
 |7,_=>rw[Yal Zcn,h,Yal Zcn,h,Yal Zcn,h,Yal Zcn,h,Yal Zcn,h,Yal Zcn,h,Yal Zcn,h];exact Zhc
theorem Dm{c:Nat->List D}(h:∀b,(c b).length=n)(K:b<8):PartAt (GL c) (b*n) n (c b):=by
 have x:b*n+n<=8*n:=ZiG
 refine⟨by rw[Ev h];omega,?_⟩;apply Ycb;intro q;rw[YaJ];split
 .rename_i l
  rw[YbO];exact Vv h K l
 .rename_i l
  rw[YbF Zcn]
theorem A3m(h:∀b,(uU b).length=n)(r:v.length=n)(K:b<8):SetAt (GL uU) (b*n) v (GL (ZH uU b v)):=by
 have S:∀j,(ZH uU b v j).length=n:=λj=>by unfold ZH;split;exact r;exact h j
 have x:b*n+n<=8*n:=ZiG
 refine⟨by rw[Ev h];omega,?_⟩;apply Ycb;intro q;by_cases l:q<8*n
 .have f:0<n:=by rcases Yaz n with e | e; subst e; omega; exact e
  have Z:q=q/n*n+q%n:=by have:=YcV q n;rw[YaM]at this;omega
  have Q:q/n<8:=by rw[YdI f];exact l
  have F:q%n<n:=YaT _ f
  have s:(GL (ZH uU b v))[q]? = (ZH uU b v (q/n))[q%n]?:=by
   have:=Vv S Q F;rwa [<-Z]at this
  have H:(GL uU)[q]? = (uU (q/n))[q%n]?:=by
   have:=Vv h Q F;rwa [<-Z]at this
  rw[s];unfold TI;have M:((GL uU).take (b*n)).length=b*n:=by rw[YaO,Ev h];omega
  by_cases A:q<b*n
  .have:q/n≠b:=λe=>by rw [e] at Z;omega
   rw[Yau ZbD,YaJ,Yan A,H,ZH,Yai this]
  .rw [Yal ZbD, M]
   by_cases B:q<b*n+n
   .have C:q/n=b:=by
     apply Nat.div_eq_of_lt_le
     .omega
     .rw [YcW];omega
    have E:q-b*n=q%n:=by rw[C]at Z;omega
    rw[Yau ZbD,ZH,Yan C,E]
   .have:q/n≠b:=λe=>by rw [e] at Z;omega
    rw[Yal ZbD,YbO,r,ZH,Yai this,<-H];exact Zhc
 .rw [YbF (by rw[Iw (by rw[Ev h];omega),Ev h];omega),YbF (by rw[Ev S];omega)]
def Hh(q:RQ):List D:=A4S q.b q.l q.b' q.l'
def Ib(L:List (List RTm)):D:=slD 28 1 (L.map λp=>[KD p])
def SY(L:List (List (List RTm))):D:=slD 24 1 (L.map λp=>[Ib p])
def GY(L:List RQ):D:=slD 111 4 (L.map Hh)
def Jf(a:RQ×RQ):List D:=Hh a.1++Hh a.2
def VG(L:List (RQ×RQ)):D:=slD 129 8 (L.map Jf)
def Dv(f:Nat->RQ×RQ):List D:=GL λi=>Jf (f i)
def Gb(L:List (Nat->RQ×RQ)):D:=slD 131 64 (L.map Dv)
def Mm(f:Nat->RQ):List D:=GL λi=>Hh (f i)
def A03(L:List (Nat->RQ)):D:=slD 187 32 (L.map Mm)
def Jq(s:RQ×List RTm):List D:=Hh s.1++[KD s.2]
def UR(L:List (RQ×List RTm)):D:=slD 184 5 (L.map Jq)
def Np(L:List Int):D:=slD 3 1 (L.map λz=>[ex (.int .i64 z)])
def Eb(k:Cor):List D:=[ex (.int .i64 k.n),Ib k.e,Ib k.f]
def EE(c:Clm):List D:=[ex (.int .i64 c.kind),KD c.p,ex (.int .i64 c.n),ex (.int .i64 c.d),ex (.int .i64 c.r),Ep c.o,Ib c.l,Np c.s,Gb c.b]
def up8(f:Nat->List RQ):List D:=oct λi=>GY (f i)
def Ro(r:Rsl):List D:=CM r.l++(GY r.q::up8 r.r)
def DD(e:Crt):List D:=[ex (.int .i64 e.n),Ib e.cof,Ib e.g,Ep e.o,SY e.c,SY e.q,SY e.s]++(Ro e.r++[VG e.a,UR e.sq,A03 e.x,Gb e.b])
def El(f:Fct):List D:=Eb f.k++(EE f.c++DD f.e)
def RelL(s:GS)(R:List D)(K:List Value):Prop:=K.length=R.length/\∀k,k<R.length->(DK R k).rel s (K.getD k undef)
theorem RelL.app{x y:List Value}(h:RelL s v x)(k:RelL s vn y):RelL s (v++vn) (x++y):=by
 refine⟨by rw[Yaa,Yaa,h.1,k.1],λi K=>?_⟩;rw[Yaa]at K;unfold DK;rw[Yab,Yab];rcases YaG i v.length with A | A
 .rw [Yau A, Yau (by rw [h.1]; exact A), <-Yab, <-Yab]
  exact h.2 i A
 .rw [Yal A, Yal (by rw [h.1]; exact A), <-Yab, <-Yab, h.1]
  exact k.2 _ ZbD
def fvD(f:FuncId)(ds h:List D):D:=⟨λs v=>∃r E:List Value,v=.func (.func f) r.toArray E.toArray/\RelL s ds r/\RelL s h E,
 λ⟨r,E,A,B,L⟩ I=>⟨r,E,A,⟨B.1,λk C=>(DK ds k).st (B.2 k C) I⟩,⟨L.1,λk C=>(DK h k).st (L.2 k C) I⟩⟩⟩
def FnAbs(P:Program)(F:D)(B:List D)(r:D):Prop:=∃X R h,D.le F (fvD X R h)/\Abs P X (R++B++h) r
theorem FnAbs.ex(h:Abs P vd v r):FnAbs P (ex (.func (.func vd) #[] #[])) v r:=⟨vd,[],[],λs A B=>⟨[],[],B,⟨rfl,λk C=>absurd C ZbS⟩,⟨rfl,λk C=>absurd C ZbS⟩⟩,by simpa using h⟩
theorem Lx{ds A B:List D}(h:Abs P vd (ds++B++A) r):FnAbs P (fvD vd ds A) B r:=⟨vd,ds,A,D.le.refl _,h⟩
section
variable {P:Program} {hp:List Ow} {arg:Operand->AV} {dd:Option Tmp} {ty:TypeId} {ps:String} {af:Array Edge} {gd:Option (Nat×Bool)}
theorem Dl{F:D}(t:arg x=.d F)(I:FnAbs P F v vw)(p:ArgsLe hp arg vO v):Quiet P hp ⟨dd,.call { callee:=.value x,args:=vO.toArray,argTypes:=vt },ty,ps,af,gd⟩ arg (.d vw):=by
 obtain⟨c,R,K,Q,a⟩:=I;refine⟨λbase s W i O f d h=>?_⟩;have B:=h x Zdc;rw[t]at B;obtain⟨r,k,Z,C,L⟩:=Q s _ B;obtain⟨S,n⟩:=ArgsLe.rel (ev:=i) d p λA E=>h A (by simp[Op.operands,Call.operands,E]);have M:RelL s v (vO.map i):=⟨by simpa using S,n⟩;have g:=(C.app M).app L;have y:=a.2 s (r++vO.map i++k) O g.1 g.2;unfold RegG.OpStep
 have V:(execOp i ⟨dd,.call { callee:=.value x,args:=vO.toArray,argTypes:=vt },ty,ps,af,gd⟩).run P s.w=.ok (.enter c (r++vO.map i++k).toArray) s.w:=by
  simp[execOp,resolve,Z,Deferred.ofValue,invoke,a.1]
 rw[V];exact y.mono λe N ⟨G,b,j,Y,J,X⟩=>⟨G,b,j,Y,J,X⟩
theorem Ls{r C:List Operand}{ds m:List D}(A:ArgsLe hp arg r ds)(B:ArgsLe hp arg C m):Quiet P hp ⟨dd,.makeFunc (.func vd) r.toArray C.toArray,ty,ps,af,gd⟩ arg (.d (fvD vd ds m)):=by
 refine⟨λbase s W i G y d h=>?_⟩;obtain⟨L,S⟩:=ArgsLe.rel (ev:=i) d A λx E=>h x (by simp[Op.operands,E]);obtain⟨n,F⟩:=ArgsLe.rel (ev:=i) d B λx E=>h x (by simp[Op.operands,E]);refine Cc (v:=.func (.func vd) (r.map i).toArray (C.map i).toArray) (by simp[execOp,Instr.makeFunc]) ⟨GS.Le.refl s,_,_,rfl,⟨by simpa using L,S⟩,⟨by simpa using n,F⟩⟩
theorem A0X{e n b N T len:Nat}(E:arg x=.d (Fg T v))(M:Tab P t (.array len e) n b z)(F:Tab P e d 1 N u)(J:Pw len v=some vn)(K:len<=1000):Quiet P hp ⟨dd,.slice t x none none none,ty,ps,af,gd⟩ arg (.d (slD T 1 (vn.map λy=>[y]))):=by
 obtain⟨m,I⟩:=Ng J;have q:vn.length=len:=by rw[m,YaO];omega
 subst q;refine⟨λbase s W i O R Q h=>?_⟩;have A:=h x ZcQ;rw[E]at A;obtain⟨g,p,Z,L⟩:=A;replace L:=L.take vn.length;rw[<-m]at L;obtain⟨G,S,B,L⟩:=L;have Z:i x=.pointer (some ⟨g,p,none⟩):=Z;refine Cc (v:=.slice (some ⟨g,p,none⟩) vn.length vn.length) ?_ ⟨GS.Le.refl s,?_⟩
 .simp [execOp,Instr.sliceAt,Z,run_underlying M.und,Instr.sureAddr,Instr.sliceBounds,F.run_size,Addr.add_lit]
 .refine ⟨some ⟨g, p, none⟩, vn.length, by rw [Yar], by rw [Yar]; exact Yah _, by omega, λ_=>⟨g, p, rfl, λk C=>?_⟩⟩
  rw[Yar]at C;have I:(vn.map λy=>[y]).getD k []=[DK vn k]:=by simp[DK,C]
  rw[I];refine⟨rfl,G,S,B,λj a=>?_⟩;have a:j<1:=a;obtain rfl:j=0:=by omega
  have:=L k C;rw[YbB,Ybd];exact this
end
section
variable {fr:List (Nat×AV)} {hp hp':List Ow}
theorem A8s(id A:Nat)(O:hp[id]? = some (.var t (v.map .d)))(E:Ch fr A=some (.ptr id 0))(Y:GZ hp id .dead=some hp'):AS.le ⟨fr,hp⟩ ⟨(A,.d (Fg t v))::fr,hp'⟩:=by
 rw[Fo Y];intro K n a w ⟨s,W,d,T⟩;obtain⟨g,G,X,p,H,R,N,j,r⟩:=T.hp id _ O;let c:GS:=⟨λb k=>s.S b k\/b=g,s.tag,s.w⟩;have i:GS.Chg s c:=⟨Yah _,λ_ _ C=>.inl C,λb G t V F=>⟨G,V,F,λ_ _=>rfl⟩⟩;have Q:g<s.w.heap.size:=Bw H;have z:c.Ok:=⟨λb k C=>C.elim (T.ok.lt b k) λh=>h▸Q,λb k P=>.inl (T.ok.safe b k P)⟩;have o:OwB s (W id) (.var t (v.map .d)) g:=by show DP (W id)=some g;rw[X];rfl
 have y:GS.LeX K.mine K.g c:=⟨T.le.os,T.le.tape,T.le.output,T.le.block,T.le.chg.trans i,λb k F L C=>C.elim (T.le.old b k F L) λC=>((T.own id _ b O (C▸o)).elim L λh=>absurd F ZbD).elim,T.le.tag,λ_=>z⟩
 have m:=T.upd (s':=c) (o':=.dead) (ρ':=W) (f:=λx=>x) y z i O
  (λb _ q=>⟨rfl,λk=>⟨λC=>C.elim (λh=>h) λh=>absurd (h▸o) q,λC=>.inl C⟩⟩) (λ_ _=>rfl) trivial (λb F=>F.elim) λM B h=>h.chg i
 rw[RJ,LO]at m;have m:StI K n ⟨fr,hp.set id .dead⟩ a c W:=m;refine⟨c,W,d,⟨m.le,m.ok,λu M S=>?_,m.sz,m.df,m.hp,m.sep,m.own⟩⟩;rw[CY]at S;split at S
 .rename_i e
  cases S;subst e;obtain⟨_,b,Z,J⟩:=T.fr A _ E;rw[X]at Z;cases Z;refine⟨g,0,J,G,(0,0),H,λk C=>?_⟩;have I:=r k (.d (DK v k)) (by simp[DK,C]);obtain⟨u,U,f,l⟩:=I;rw[YaH];exact⟨.inr rfl,u,U,f,(DK v k).st l i⟩
 .exact m.fr u M S
end
theorem CL{s0:An}{Q:Exit->AS->Prop}{f:List (Nat×AV)}{ds:List D}(id A:Nat)(s:H[id]? = some (.var t (ds.map .d)))(E:Ch f A=some (.ptr id 0))(Y:GZ H id .dead=some vz)(k:AWp P s0 n vp Q ⟨(A,.d (Fg t ds))::f,vz⟩):AWp P s0 n vp Q ⟨f,H⟩:=DT (A8s id A s E Y) k
abbrev wH(b:List Nat):List Ow:=[.var 103 [.own 1],.row 5 1 (Da b)]
def Wr(f:FuncId)(x:D)(e:List Nat):Prop:=∀b,b.length+e.length<=1000000000000->Con prog f [.ptr 0 0,.d x] (wH b) [1] (λr z=>r=.d CD/\z=wH (b++e))
theorem Wr.intro{f:FuncId}{x:D}{e:List Nat}(h:∀b,b.length+e.length<=1000000000000->Con prog f [.ptr 0 0,.d x] (wH b) [1] (λr z=>r=.d CD/\z.take 2=wH (b++e))):Wr f x e:=λb F=>(h b F).cut λr z ⟨A,B⟩=>ZaW
theorem BD(t:P.funcs[vd]? = some vP)(F:vP.body=some vp)(N:∀i w,(callFunc vd i).run P w=.ok (.enter vd i) w)(f:Nat.ble i.length vP.ntmps=true)
  (h:∀(v:An) (O X:Value),AWp P v vP.ntmps vp (FinC P vP [1] [O,X] vy) ⟨IZ 0 i,[vs,uE,.pin [(O,.own 0)]]⟩):Con P vd i [vs,uE] [1] vy:=
 SR t F N f λv K r=>by
  match K,r with
  |[O,X],_=>exact h v O X
theorem BZ{id off:Nat}(E:vC x=.ptr id off):Quiet P H ⟨vF,.nilCheck x,t,vJ,vK,vV⟩ vC (.ptr id off):=by
 refine⟨λbase s W i F y d r=>?_⟩;have S:=r x ZcQ;rw[E]at S;obtain⟨n,b,B,g⟩:=S;refine Cc (v:=i x) ?_ ⟨GS.Le.refl s,n,b,B,g⟩;simp[execOp,g]
theorem Dj(n:Nat)(f:n<18446744073709551616):Wr 120 (ex (.int .u64 (n:Nat))) (Bv n):=Wr.intro λb F=>by
 refine BD func120 rfl (Ag func120 ZbI ZbI) rfl λv x a=>?_;rw[ntmps120];refine Go ?_;refine AC (λu d=>∃y g,u=g/\g<18446744073709551616/\y++Bv g=b++Bv n/\d=⟨[(0,.ptr 0 0),(1,.d (ex (.int .u64 (g:Nat))))],[.var 103 [.own 1],.row 5 1 (Da y),.pin [(x,.own 0)]]⟩) ?le ⟨b,n,rfl,f,rfl,rfl⟩ ?round
 case le=>exact Ac Zcb (by exact HpLe.cons (Ad rfl)<|Yr<|HpLe.cons (Ak rfl)<|HpLe.nil)
 case round=>
  rintro g _ ⟨y,_,rfl,j,A,rfl⟩;have q:(y++Bv g).length=(b++Bv n).length:=by rw[A]
  rw[Yaa,Yaa]at q;have B:=HE g;by_cases h:128<=g
  .have Z:Bv g=(g%128+128)::Bv (g/128):=by rw [Bv, Yai ZbD]
   have s:Bv g=[g%128+128]++Bv (g/128):=Z;rw[Z,Yav]at q;have J:=Db y;have k:=HE (g/128);refine Go ?_;refine Wq (BZ (ao rfl)) ?_;refine Go ?_;refine Wq (DN (r:=((g%128+128:Nat):Int)) (ao rfl) (ao rfl) (by rw[IntKind.wrap_u8,IntKind.wrap_u8];omega)) ?_;(refine De rfl rfl ?_;(refine DF (Aa rfl) (Aa rfl) rfl rfl rfl rfl rfl ?_;(repeat ((first | refine⟨_,Aw (ao rfl),?_⟩ | refine⟨_,Po rfl,?_⟩);refine⟨_,rfl,?_⟩));refine⟨_,rfl,?_⟩));(refine Oi (r2:=[[ex (.int .u8 ((g%128+128:Nat):Int))]]) (ao rfl) rfl rfl (Aa rfl) (Aa rfl) rfl rfl Zdt Zdt rfl Zcx rfl ?_);refine Wq (BZ (ao rfl)) ?_;refine Wq AB ?_;refine En (ao rfl) (ao rfl) rfl (Aa rfl) ZdE rfl rfl ?_;refine Go ?_;refine Wq (GT (r:=((g/128:Nat):Int)) (ao rfl) (ao rfl) ZbH ZcM) ?_;refine Go ?_;refine Ah (g/128) ZbD ⟨y++[g%128+128],g/128,rfl,by omega,by rw[Yaf,<-s];exact A,rfl⟩ ?_;exact Ac Zcb (by refine HpLe.cons (Ad rfl) ?_;(refine HpLe.cons (OwLe.row (by rw[IJ];rfl)) ?_);exact HpLe.cons (Ak rfl)<|HpLe.nil)
  .have Z:Bv g=[g]:=by rw [Bv, Yan ZbD]
   rw[Z,Yav]at q;rw[Z]at A;have J:=Db y;refine Ai<|Y1<|Wm ?_;refine Wq AN ?_;refine Y0<|Cf<|Cg<|BE<|BR<|BH<|Yn<|AWp.region<|Wm<|Wm ?_;refine Wq (BZ (ao rfl)) ?_;refine Wq AB ?_;refine Wq Cm ?_;refine Wm ?_;refine Wq (AO (r:=((g:Nat):Int)) (ao rfl) (Aa rfl) (Aa rfl) ZcB) ?_;(refine De rfl rfl ?_;(refine DF (Aa rfl) (Aa rfl) rfl rfl rfl rfl rfl ?_;(repeat ((first | refine⟨_,Aw (ao rfl),?_⟩ | refine⟨_,Po rfl,?_⟩);refine⟨_,rfl,?_⟩));refine⟨_,rfl,?_⟩));(refine Oi (r2:=[[ex (.int .u8 ((g:Nat):Int))]]) (ao rfl) rfl rfl (Aa rfl) (Aa rfl) rfl rfl Zdt Zdt rfl Zcx rfl ?_);refine Wq (BZ (ao rfl)) ?_;refine Wq AB ?_;refine En (ao rfl) (ao rfl) rfl (Aa rfl) ZdE rfl rfl ?_;apply AWl.nil
   first | refine Bt RetsA.none rfl ?_ rfl | refine AW RetsA.none rfl ?_ rfl
   exact⟨rfl,by rw[<-A,wH,IJ];rfl⟩
def IW(z:Int):Prop:=-9223372036854775808<=z/\z<=9223372036854775807
structure TW(t:RTm):Prop where
 n:SmW t.l
 d:SmW t.l'
abbrev Fy{A:Type}(D:A->Prop)(l:List A):Prop:=∀x∈l,D x
abbrev PoW:List RTm->Prop:=Fy TW
abbrev PsW:List (List RTm)->Prop:=Fy PoW
abbrev TaW:List (List (List RTm))->Prop:=Fy PsW
def Fz{A:Type}(D:A->Prop)(f:Nat->A):Prop:=∀i,i<8->D (f i)
theorem BC[Inhabited e]{l:List e}{k:Nat}(h:k<l.length):l.getD k default∈l:=by
 exact Zgc
theorem Ck{A:Type}[Inhabited A](e:A->List Nat){l:List A}{k:Nat}(h:k<l.length):(l.take (k+1)).flatMap e=(l.take k).flatMap e++e (l.getD k default):=by
 rw[YcO,Yac h,List.flatMap_append,Yab,Yac h];simp
theorem Df{B:Type}[Inhabited B](e:B->List Nat){l:List B}{k:Nat}(h:k<l.length):((l.take k).flatMap e).length+(e (l.getD k default)).length<=(l.flatMap e).length:=by
 have A:l.flatMap e=(l.take (k+1)).flatMap e++(l.drop (k+1)).flatMap e:=by rw[<-List.flatMap_append,Yca]
 rw[A,Ck e h,Yaa,Yaa];omega
def DB{A:Type}(e:A->List Nat)(f:Nat->A)(k:Nat):List Nat:=(List.range k).flatMap λi=>e (f i)
theorem Eq{A:Type}(e:A->List Nat)(f:Nat->A)(k:Nat):DB e f (k+1)=DB e f k++e (f k):=by simp[DB,Ycv]
theorem Gl{A:Type}(e:A->List Nat)(f:Nat->A){k:Nat}:∀{n:Nat},k<n->(DB e f k).length+(e (f k)).length<=(DB e f n).length
 |n+1,h=>by
  rw[Eq,Yaa];by_cases C:k=n
  .subst C
   exact Yah _
  .have:=Gl e f (n:=n) (show k<n by omega)
   omega
theorem NE(h:f=l++vo):Da l++Da vo=Da f:=by rw[h,IJ]
theorem EY{w n m:Nat}(h:2^n=m):((w:Int)).fdiv (2^n)=((w/m:Nat):Int):=by
 subst h;rw[Int.fdiv_eq_ediv_of_nonneg _ (by have:(0:Int)<2^n:=Int.pow_pos ZbD;omega)]
 norm_cast
theorem FN(z:Int)(o:IW z):Wr 54 (ex (.int .i64 z)) (Bo z):=Wr.intro λb F=>by
 obtain⟨A,B⟩:=o;by_cases h:0<=z
 .have e:Bo z=Bv (2*z.toNat):=by rw [Bo, RF, Yai ZbD]
  rw[e]at F ⊢;have I:=Dj (2*z.toNat) ZbD b F;refine BD func54 rfl (Ag func54 ZbI ZbI) rfl λv x a=>?_;rw[ntmps54];refine Y1<|Wm ?_;refine Wq Bb ?_;refine Y0<|Ct<|AWp.region<|Wm<|Wm ?_;refine Wq (AO (r:=((z.toNat:Nat):Int)) (ao rfl) (Aa rfl) (Aa rfl) ZcJ) ?_;refine Wq (GU (r:=((2*z.toNat:Nat):Int)) (ao rfl) (ao rfl) ZcJ) ?_
  exact ZaX
 .have e:Bo z=Bv (2*(-(z+1)).toNat+1):=by rw [Bo, RF, Yan ZbD]
  rw[e]at F ⊢;have I:=Dj (2*(-(z+1)).toNat+1) ZbD b F;refine BD func54 rfl (Ag func54 ZbI ZbI) rfl λv x a=>?_;rw[ntmps54];refine Y1<|Wm ?_;refine Wq AN ?_;refine Y0<|Cf<|AWp.region<|Wm<|Wm ?_;refine Wq Wn ?_;refine Wq A0L ?_;refine Wq (AO (r:=(((-(z+1)).toNat:Nat):Int)) (ao rfl) (Aa rfl) (Aa rfl) ZcJ) ?_;refine Wq (GU (r:=((2*(-(z+1)).toNat:Nat):Int)) (ao rfl) (ao rfl) ZcJ) ?_;refine Wq (DN (r:=((2*(-(z+1)).toNat+1:Nat):Int)) (ao rfl) (ao rfl) ZcJ) ?_
  exact ZaX
theorem RU(s:Bool)(l:List Nat)(J:SmW l):Wr 281 (AP [ex (.bool s),wD l]) (Fw s l):=Wr.intro λb F=>by
 have A:∀k,k<l.length->l.getD k 0<4294967296:=λk C=>J.1 _ (BC C);have q:=J.2;have V:(Fw s l).length=(Bv (2*l.length+(if s=true then 1 else 0))).length+(l.flatMap Cw).length:=by rw[Fw,Yaa]
 have Y:2*l.length+(if s=true then 1 else 0)<18446744073709551616:=by split<;>omega
 obtain⟨N,R⟩:∃N,N=2*l.length+(if s=true then 1 else 0):=⟨_,rfl⟩;have i:Fw s l=Bv N++l.flatMap Cw:=by rw[R];rfl
 rw[<-R]at Y V;have I:=Dj N Y b ZbD;refine BD func281 rfl (Ag func281 ZbI ZbI) rfl λv x a=>?_;rw[ntmps281];apply Y1;refine Bx ?_;refine Y0<|Y1 ?_;refine Wq AB ?_;refine Wq Ar ?_;refine Wq QE ?_;refine Wq (AO (r:=((l.length:Nat):Int)) (ao rfl) (Aa rfl) (Aa rfl) (ET ZbD)) ?_;refine Wq (GU (r:=((2*l.length:Nat):Int)) (ao rfl) (ao rfl) ZcJ) ?_;refine Wa<|Y0<|Ai<|Y1 ?_;refine Wq AB ?_;refine Wq Ar ?_;apply Y0
 cases s
 .have B:N=2*l.length:=by rw [R];simp
  refine Go ?_;refine AU [0,1] [] [] (ZeB) Zbz rfl rfl ZbC ZbA ZbH Zby ZbE trivial rfl ?_;rintro _ _ ⟨rfl,rfl⟩;refine ZfO ?_;refine AC (λu d=>∃k,k<=l.length/\u=l.length-k/\d=⟨[(0,.ptr 0 0),(20,.d (wD l)),(21,.d (ex (.int .i64 (l.length:Nat)))),(22,.d (ex (.int .i64 (k:Nat))))],[.var 103 [.own 1],.row 5 1 (Da (b++Bv N++(l.take k).flatMap Cw)),.pin [(x,.own 0)]]⟩) ?le ⟨0,by omega,rfl,rfl⟩ ?round
  case le=>exact Ac Zdd Zdz
  case round=>
   exact ZaY
 .have B:N=2*l.length+1:=by rw [R];simp
  refine Go ?_;refine Wq (DN (r:=((2*l.length+1:Nat):Int)) (ao rfl) (ao rfl) ZcJ) ?_;refine Go ?_;refine AU [0,1] [] [] (ZeB) Zbz rfl rfl ZbC ZbA ZbH Zby ZbE trivial rfl ?_;rintro _ _ ⟨rfl,rfl⟩;refine ZfO ?_;refine AC (λu d=>∃k,k<=l.length/\u=l.length-k/\d=⟨[(0,.ptr 0 0),(20,.d (wD l)),(21,.d (ex (.int .i64 (l.length:Nat)))),(22,.d (ex (.int .i64 (k:Nat))))],[.var 103 [.own 1],.row 5 1 (Da (b++Bv N++(l.take k).flatMap Cw)),.pin [(x,.own 0)]]⟩) ?le ⟨0,by omega,rfl,rfl⟩ ?round
  case le=>exact Ac Zdd Zdz
  case round=>
   exact ZaY
def Wl(f P:FuncId)(x:D)(e:List Nat):Prop:=∀b,b.length+e.length<=1000000000000->Con prog f [.ptr 0 0,.d x,.fn (P+1000000) [0]] (wH b) [1] (λr z=>r=.d CD/\z=wH (b++e))
theorem Wl.intro{f P:FuncId}{x:D}{e:List Nat}(h:∀b,b.length+e.length<=1000000000000->Con prog f [.ptr 0 0,.d x,.fn (P+1000000) [0]] (wH b) [1] (λr z=>r=.d CD/\z.take 2=wH (b++e))):Wl f P x e:=λb F=>(h b F).cut λr z ⟨A,B⟩=>ZaW
def VW(a:RQ×RQ):Prop:=QB a.1/\QB a.2
def SqW(s:RQ×List RTm):Prop:=QB s.1/\PoW s.2
structure CoW(k:Cor):Prop where
 n:IW k.n
 e:PsW k.e
 f:PsW k.f
structure ClW(c:Clm):Prop where
 kind:IW c.kind
 p:PoW c.p
 n:IW c.n
 d:IW c.d
 r:IW c.r
 o:Fy (Fz IW) c.o
 l:PsW c.l
 s:Fy IW c.s
 b:Fy (Fz VW) c.b
structure RsW(r:Rsl):Prop where
 l:Fz IW r.l
 q:Fy QB r.q
 r:Fz (Fy QB) r.r
structure CrW(e:Crt):Prop where
 n:IW e.n
 cof:PsW e.cof
 g:PsW e.g
 o:Fy (Fz IW) e.o
 c:TaW e.c
 q:TaW e.q
 s:TaW e.s
 r:RsW e.r
 a:Fy VW e.a
 sq:Fy SqW e.sq
 x:Fy (Fz QB) e.x
 b:Fy (Fz VW) e.b
structure FW(f:Fct):Prop where
 k:CoW f.k
 c:ClW f.c
 e:CrW f.e
theorem WV(z:Int):IntKind.u64.wrap z=((u64 z:Nat):Int):=by
 rw[IntKind.wrap_u64];unfold u64;omega
theorem Gx(q:RQ)(l:QB q):Wr 220 (AP (Hh q)) (CC q):=Wr.intro λb F=>by
 simp only[CC,Yaa]at F;have c:=RU q.b q.l l.n (b) ZbL;have A:=RU q.b' q.l' l.d (b++Fw q.b q.l) ZbL;refine BD func220 rfl (Ag func220 ZbI ZbI) rfl λv x a=>?_;rw[ntmps220];refine ZfJ ?_;rintro _ _ ⟨rfl,rfl⟩;refine Kr ?_;refine ZfK ?_;rintro _ _ ⟨rfl,rfl⟩;refine ZhN ?_
 first | refine Bt RetsA.none rfl ?_ rfl | refine AW RetsA.none rfl ?_ rfl
 exact Zkd
theorem PJ(a:RQ×RQ)(p:VW a):Wr 209 (AP (Jf a)) (GC a):=Wr.intro λb F=>by
 simp only[GC,Yaa]at F;have c:=Gx a.1 p.1 (b) ZbL;have A:=Gx a.2 p.2 (b++CC a.1) ZbL;refine BD func209 rfl (Ag func209 ZbI ZbI) rfl λv x B=>?_;rw[ntmps209];refine ZfJ ?_;rintro _ _ ⟨rfl,rfl⟩;refine Kr ?_;refine ZfK ?_;rintro _ _ ⟨rfl,rfl⟩;refine ZhN ?_
 first | refine Bt RetsA.none rfl ?_ rfl | refine AW RetsA.none rfl ?_ rfl
 exact⟨rfl,by simp only[GC,Yaf];rfl⟩
theorem RD(a:Nat->Int)(p:Fz IW a):Wr 124 (AP (CM a)) (Gi a):=Wr.intro λb F=>by
 have V:Gi a=DB (Bo) a 8:=rfl;rw[V]at F ⊢;refine BD func124 rfl (Ag func124 ZbI ZbI) rfl λv x A=>?_;rw[ntmps124];refine Go ?_;refine AC (λu d=>∃k,k<=8/\u=8-k/\d=⟨[(0,.ptr 0 0),(6,.d (AP (CM a))),(7,.d (ex (.int .i64 (k:Nat))))],[.var 103 [.own 1],.row 5 1 (Da (b++DB (Bo) a k)),.pin [(x,.own 0)]]⟩) ?le ⟨0,by omega,rfl,rfl⟩ ?round
 case le=>exact Ac Zcg Zcs
 case round=>
  rintro u _ ⟨k,C,rfl,rfl⟩;by_cases Q:k<8
  .have C:=Gl (Bo) a Q
   have I:=FN (a k) (p k Q) (b++DB (Bo) a k) ZbL;apply Y1;refine Wq Bb ?_;refine Y0<|Ai<|Ct<|Ys<|Ai<|AWp.block<|Y1 ?_;refine Wq (Gn (ao rfl) (ao rfl) (Aa rfl) (Aa rfl) rfl Q (CellAt.mon Q)) ?_;refine Wa<|Y0<|AWp.region<|Wm<|Wm ?_
   exact Zin
  .exact ZaZ
theorem Aad(f:Nat->RQ×RQ)(t:Fz VW f):Wr 272 (AP (Dv f)) (GQ f):=Wr.intro λb F=>by
 have V:GQ f=DB (GC) f 8:=rfl;rw[V]at F ⊢;refine BD func272 rfl (Ag func272 ZbI ZbI) rfl λv x a=>?_;rw[ntmps272];refine Go ?_;refine AC (λu d=>∃k,k<=8/\u=8-k/\d=⟨[(0,.ptr 0 0),(6,.d (AP (Dv f))),(7,.d (ex (.int .i64 (k:Nat))))],[.var 103 [.own 1],.row 5 1 (Da (b++DB (GC) f k)),.pin [(x,.own 0)]]⟩) ?le ⟨0,by omega,rfl,rfl⟩ ?round
 case le=>exact Ac Zcg Zcs
 case round=>
  rintro u _ ⟨k,C,rfl,rfl⟩;by_cases Q:k<8
  .have C:=Gl (GC) f Q
   have I:=PJ (f k) (t k Q) (b++DB (GC) f k) ZbL;refine ZfE ?_;refine ZgU ?_;exact Zim
  .exact ZaZ
theorem A4Y(f:Nat->RQ)(t:Fz QB f):Wr 213 (AP (Mm f)) (Pz f):=Wr.intro λb F=>by
 have V:Pz f=DB (CC) f 8:=rfl;rw[V]at F ⊢;refine BD func213 rfl (Ag func213 ZbI ZbI) rfl λv x a=>?_;rw[ntmps213];refine Go ?_;refine AC (λu d=>∃k,k<=8/\u=8-k/\d=⟨[(0,.ptr 0 0),(6,.d (AP (Mm f))),(7,.d (ex (.int .i64 (k:Nat))))],[.var 103 [.own 1],.row 5 1 (Da (b++DB (CC) f k)),.pin [(x,.own 0)]]⟩) ?le ⟨0,by omega,rfl,rfl⟩ ?round
 case le=>exact Ac Zcg Zcs
 case round=>
  rintro u _ ⟨k,C,rfl,rfl⟩;by_cases Q:k<8
  .have C:=Gl (CC) f Q
   have I:=Gx (f k) (t k Q) (b++DB (CC) f k) ZbL;refine ZfE ?_;refine ZgU ?_;exact Zim
  .exact ZaZ
theorem A6V(t:RTm)(M:TW t):Wr 122 (AP (rtC t)) (Es t):=Wr.intro λb F=>by
 have V:Es t=CC ⟨t.b,t.l,t.b',t.l'⟩++DB (λz=>Bv (u64 z)) t.m 8:=rfl;rw[V]at F ⊢;simp only[Yaa]at F;have c:=Gx ⟨t.b,t.l,t.b',t.l'⟩ ⟨M.n,M.d⟩ b ZbD;refine BD func122 rfl (Ag func122 ZbI ZbI) rfl λv x a=>?_;rw[ntmps122];refine ZfJ ?_;rintro _ _ ⟨rfl,rfl⟩;refine ZfO ?_;refine AC (λu d=>∃k,k<=8/\u=8-k/\d=⟨[(0,.ptr 0 0),(11,.d (AP (CM t.m))),(12,.d (ex (.int .i64 (k:Nat))))],[.var 103 [.own 1],.row 5 1 (Da (b++CC ⟨t.b,t.l,t.b',t.l'⟩++DB (λz=>Bv (u64 z)) t.m k)),.pin [(x,.own 0)]]⟩) ?le ⟨0,by omega,rfl,rfl⟩ ?round
 case le=>exact Ac Zcg Zcs
 case round=>
  rintro u _ ⟨k,C,rfl,rfl⟩;by_cases Q:k<8
  .have C:=Gl (λz=>Bv (u64 z)) t.m Q
   have I:=Dj (u64 (t.m k)) (by unfold u64;omega) (b++CC ⟨t.b,t.l,t.b',t.l'⟩++DB (λz=>Bv (u64 z)) t.m k) ZbL;apply Y1;refine Wq Bb ?_;refine Y0<|Ai<|Ct<|Ys<|Ai<|AWp.block<|Y1 ?_;refine Wq (Gn (ao rfl) (ao rfl) (Aa rfl) (Aa rfl) rfl Q (CellAt.mon Q)) ?_;refine Wa<|Y0<|AWp.region<|Wm<|Wm ?_;refine Wq (AO (r:=((u64 (t.m k):Nat):Int)) (ao rfl) (Aa rfl) (Aa rfl) (WV (t.m k))) ?_
   exact Zin
  .obtain rfl:k=8:=by omega
   refine Go ?_
   first | refine Bt RetsA.none rfl ?_ rfl | refine AW RetsA.none rfl ?_ rfl
   exact⟨rfl,by rw[Yaf];rfl⟩
theorem A8Y(L:List (RTm))(p:Fy TW L):Wl 121 122 (KD L) (Br Es L):=Wl.intro λb F=>by
 have f:=Dk (e:=Es) (l:=L) λx _=>QW x;have V:(Br Es L).length=(Bv L.length).length+(L.flatMap Es).length:=Zke
 rw[V]at F;have c:=Dj L.length ZbD b ZbD;refine BD func121 rfl (Ag func121 ZbI ZbI) rfl λv A a=>?_;rw[ntmps121];refine Y1<|Wm<|Wm ?_;refine Wq (Bi rfl (Aa rfl)) ?_;refine Wq (AO (r:=((L.length:Nat):Int)) (ao rfl) (Aa rfl) (Aa rfl) (ET ZbD)) ?_
 refine AU [0,1] [] [] (c) Zbz rfl rfl ZbC ZbA ZbH Zby ZbE trivial rfl ?_;rintro _ _ ⟨rfl,rfl⟩;refine Kr ?_;refine Y0<|Y1<|Wm ?_;refine Wq (Bi rfl (Aa rfl)) ?_;refine Wm<|Y0<|AWp.block ?_
 refine AC (λu d=>∃k,k<=L.length/\u=L.length-k/\d=⟨[(0,.ptr 0 0),(2,.fn (122+1000000) [0]),(13,.d (KD L)),(14,.d (ex (.int .i64 (L.length:Nat)))),(15,.d (ex (.int .i64 (k:Nat))))],[.var 103 [.own 1],.row 5 1 (Da (b++Bv L.length++(L.take k).flatMap Es)),.pin [(A,.own 0)]]⟩) ?le ⟨0,by omega,rfl,rfl⟩ ?round
 case le=>exact Zkf
 case round=>
  rintro u _ ⟨k,C,rfl,rfl⟩;by_cases Q:k<L.length
  .have C:=Df Es Q
   have I:=A6V (L.getD k default) (p _ (BC Q)) (b++Bv L.length++(L.take k).flatMap Es) ZbX;apply Y1;refine Wq Bb ?_;refine Y0<|Ai<|Ct<|Ys<|Ai<|AWp.block<|Y1 ?_;refine Wq (CE (k:=k) rfl (ao rfl) (Aa rfl) (Aa rfl) rfl Q) ?_;refine Wq Ca ?_;refine Al ?_;refine Sf ?_;refine Y0<|AWp.region<|Wm ?_;refine Wq AH ?_
   refine AU [0,1] [0] [] (I) Zbz rfl rfl ZbC ZbA ZbH Zby ZbE trivial rfl ?_;rintro _ _ ⟨rfl,rfl⟩;refine ZgM ?_;exact Ac ZbT (by exact HpLe.cons (Ad rfl)<|HpLe.cons (OwLe.row (by rw[Ck Es Q,<-Yaf]))<|HpLe.cons (Ak rfl)<|HpLe.nil)
  .exact Zba
theorem Qr(l:List (RTm))(J:Fy TW l):Wr 55 (KD l) (CB l):=Wr.intro λb F=>by
 have I:=A8Y l J b F;refine BD func55 rfl (Ag func55 ZbI ZbI) rfl λv x a=>?_;rw[ntmps55];refine Go ?_;refine ZfM ?_;rintro _ _ ⟨rfl,rfl⟩;refine ZhN ?_
 exact Zbx
theorem A8Z(L:List (List RTm))(p:Fy PoW L):Wl 219 55 (Ib L) (Br CB L):=Wl.intro λb F=>by
 have f:=Dk (e:=CB) (l:=L) λx _=>JN _ _;have V:(Br CB L).length=(Bv L.length).length+(L.flatMap CB).length:=Zke
 rw[V]at F;have c:=Dj L.length ZbD b ZbD;refine BD func219 rfl (Ag func219 ZbI ZbI) rfl λv A a=>?_;rw[ntmps219];refine Y1<|Wm<|Wm ?_;refine Wq (Bi rfl (Aa rfl)) ?_;refine Wq (AO (r:=((L.length:Nat):Int)) (ao rfl) (Aa rfl) (Aa rfl) (ET ZbD)) ?_
 refine AU [0,1] [] [] (c) Zbz rfl rfl ZbC ZbA ZbH Zby ZbE trivial rfl ?_;rintro _ _ ⟨rfl,rfl⟩;refine Kr ?_;refine Y0<|Y1<|Wm ?_;refine Wq (Bi rfl (Aa rfl)) ?_;refine Wm<|Y0<|AWp.block ?_
 refine AC (λu d=>∃k,k<=L.length/\u=L.length-k/\d=⟨[(0,.ptr 0 0),(2,.fn (55+1000000) [0]),(13,.d (Ib L)),(14,.d (ex (.int .i64 (L.length:Nat)))),(15,.d (ex (.int .i64 (k:Nat))))],[.var 103 [.own 1],.row 5 1 (Da (b++Bv L.length++(L.take k).flatMap CB)),.pin [(A,.own 0)]]⟩) ?le ⟨0,by omega,rfl,rfl⟩ ?round
 case le=>exact Zkf
 case round=>
  rintro u _ ⟨k,C,rfl,rfl⟩;by_cases Q:k<L.length
  .have C:=Df CB Q
   have I:=Qr (L.getD k default) (p _ (BC Q)) (b++Bv L.length++(L.take k).flatMap CB) ZbX;apply Y1;refine Wq Bb ?_;refine Y0<|Ai<|Ct<|Ys<|Ai<|AWp.block<|Y1 ?_;refine Wq (CE (k:=k) rfl (ao rfl) (Aa rfl) (Aa rfl) rfl Q) ?_;refine Wq AT ?_;refine Wa<|Y0<|AWp.region<|Wm<|Wm ?_
   refine AU [0,1] [0] [] (I) Zbz rfl rfl ZbC ZbA ZbH Zby ZbE trivial rfl ?_;rintro _ _ ⟨rfl,rfl⟩;refine ZgM ?_;exact Ac ZbT (by exact HpLe.cons (Ad rfl)<|HpLe.cons (OwLe.row (by rw[Ck CB Q,<-Yaf]))<|HpLe.cons (Ak rfl)<|HpLe.nil)
  .exact Zba
theorem JG(l:List (List RTm))(J:Fy PoW l):Wr 119 (Ib l) (Bf l):=Wr.intro λb F=>by
 have I:=A8Z l J b F;refine BD func119 rfl (Ag func119 ZbI ZbI) rfl λv x a=>?_;rw[ntmps119];refine Go ?_;refine ZfM ?_;rintro _ _ ⟨rfl,rfl⟩;refine ZhN ?_
 exact Zbx
theorem A6T(L:List (List (List RTm)))(p:Fy PsW L):Wl 273 119 (SY L) (Br Bf L):=Wl.intro λb F=>by
 have f:=Dk (e:=Bf) (l:=L) λx _=>JN _ _;have V:(Br Bf L).length=(Bv L.length).length+(L.flatMap Bf).length:=Zke
 rw[V]at F;have c:=Dj L.length ZbD b ZbD;refine BD func273 rfl (Ag func273 ZbI ZbI) rfl λv A a=>?_;rw[ntmps273];refine Y1<|Wm<|Wm ?_;refine Wq (Bi rfl (Aa rfl)) ?_;refine Wq (AO (r:=((L.length:Nat):Int)) (ao rfl) (Aa rfl) (Aa rfl) (ET ZbD)) ?_
 refine AU [0,1] [] [] (c) Zbz rfl rfl ZbC ZbA ZbH Zby ZbE trivial rfl ?_;rintro _ _ ⟨rfl,rfl⟩;refine Kr ?_;refine Y0<|Y1<|Wm ?_;refine Wq (Bi rfl (Aa rfl)) ?_;refine Wm<|Y0<|AWp.block ?_
 refine AC (λu d=>∃k,k<=L.length/\u=L.length-k/\d=⟨[(0,.ptr 0 0),(2,.fn (119+1000000) [0]),(13,.d (SY L)),(14,.d (ex (.int .i64 (L.length:Nat)))),(15,.d (ex (.int .i64 (k:Nat))))],[.var 103 [.own 1],.row 5 1 (Da (b++Bv L.length++(L.take k).flatMap Bf)),.pin [(A,.own 0)]]⟩) ?le ⟨0,by omega,rfl,rfl⟩ ?round
 case le=>exact Zkf
 case round=>
  rintro u _ ⟨k,C,rfl,rfl⟩;by_cases Q:k<L.length
  .have C:=Df Bf Q
   have I:=JG (L.getD k default) (p _ (BC Q)) (b++Bv L.length++(L.take k).flatMap Bf) ZbX;apply Y1;refine Wq Bb ?_;refine Y0<|Ai<|Ct<|Ys<|Ai<|AWp.block<|Y1 ?_;refine Wq (CE (k:=k) rfl (ao rfl) (Aa rfl) (Aa rfl) rfl Q) ?_;refine Wq AT ?_;refine Wa<|Y0<|AWp.region<|Wm<|Wm ?_
   refine AU [0,1] [0] [] (I) Zbz rfl rfl ZbC ZbA ZbH Zby ZbE trivial rfl ?_;rintro _ _ ⟨rfl,rfl⟩;refine ZgM ?_;exact Ac ZbT (by exact HpLe.cons (Ad rfl)<|HpLe.cons (OwLe.row (by rw[Ck Bf Q,<-Yaf]))<|HpLe.cons (Ak rfl)<|HpLe.nil)
  .exact Zba
theorem Oy(l:List (List (List RTm)))(J:Fy PsW l):Wr 206 (SY l) (BJ l):=Wr.intro λb F=>by
 have I:=A6T l J b F;refine BD func206 rfl (Ag func206 ZbI ZbI) rfl λv x a=>?_;rw[ntmps206];refine Go ?_;refine ZfM ?_;rintro _ _ ⟨rfl,rfl⟩;refine ZhN ?_
 exact Zbx
theorem AaS(L:List (RQ))(p:Fy QB L):Wl 308 220 (GY L) (Br CC L):=Wl.intro λb F=>by
 have f:=Dk (e:=CC) (l:=L) λx _=>IY x;have V:(Br CC L).length=(Bv L.length).length+(L.flatMap CC).length:=Zke
 rw[V]at F;have c:=Dj L.length ZbD b ZbD;refine BD func308 rfl (Ag func308 ZbI ZbI) rfl λv A a=>?_;rw[ntmps308];refine Y1<|Wm<|Wm ?_;refine Wq (Bi rfl (Aa rfl)) ?_;refine Wq (AO (r:=((L.length:Nat):Int)) (ao rfl) (Aa rfl) (Aa rfl) (ET ZbD)) ?_
 refine AU [0,1] [] [] (c) Zbz rfl rfl ZbC ZbA ZbH Zby ZbE trivial rfl ?_;rintro _ _ ⟨rfl,rfl⟩;refine Kr ?_;refine Y0<|Y1<|Wm ?_;refine Wq (Bi rfl (Aa rfl)) ?_;refine Wm<|Y0<|AWp.block ?_
 refine AC (λu d=>∃k,k<=L.length/\u=L.length-k/\d=⟨[(0,.ptr 0 0),(2,.fn (220+1000000) [0]),(13,.d (GY L)),(14,.d (ex (.int .i64 (L.length:Nat)))),(15,.d (ex (.int .i64 (k:Nat))))],[.var 103 [.own 1],.row 5 1 (Da (b++Bv L.length++(L.take k).flatMap CC)),.pin [(A,.own 0)]]⟩) ?le ⟨0,by omega,rfl,rfl⟩ ?round
 case le=>exact Zkf
 case round=>
  rintro u _ ⟨k,C,rfl,rfl⟩;by_cases Q:k<L.length
  .have C:=Df CC Q
   have I:=Gx (L.getD k default) (p _ (BC Q)) (b++Bv L.length++(L.take k).flatMap CC) ZbX;apply Y1;refine Wq Bb ?_;refine Y0<|Ai<|Ct<|Ys<|Ai<|AWp.block<|Y1 ?_;refine Wq (CE (k:=k) rfl (ao rfl) (Aa rfl) (Aa rfl) rfl Q) ?_;refine Wq Ca ?_;refine Al ?_;refine Sf ?_;refine Y0<|AWp.region<|Wm ?_;refine Wq AH ?_
   refine AU [0,1] [0] [] (I) Zbz rfl rfl ZbC ZbA ZbH Zby ZbE trivial rfl ?_;rintro _ _ ⟨rfl,rfl⟩;refine ZgM ?_;exact Ac ZbT (by exact HpLe.cons (Ad rfl)<|HpLe.cons (OwLe.row (by rw[Ck CC Q,<-Yaf]))<|HpLe.cons (Ak rfl)<|HpLe.nil)
  .exact Zba
theorem Mq(l:List (RQ))(J:Fy QB l):Wr 274 (GY l) (Ge l):=Wr.intro λb F=>by
 have I:=AaS l J b F;refine BD func274 rfl (Ag func274 ZbI ZbI) rfl λv x a=>?_;rw[ntmps274];refine Go ?_;refine ZfM ?_;rintro _ _ ⟨rfl,rfl⟩;refine ZhN ?_
 exact Zbx
theorem AaR(L:List (Nat->Int))(p:Fy (Fz IW) L):Wl 123 124 (Ep L) (Br Gi L):=Wl.intro λb F=>by
 have f:=Dk (e:=Gi) (l:=L) λx _=>Id LM x;have V:(Br Gi L).length=(Bv L.length).length+(L.flatMap Gi).length:=Zke
 rw[V]at F;have c:=Dj L.length ZbD b ZbD;refine BD func123 rfl (Ag func123 ZbI ZbI) rfl λv A a=>?_;rw[ntmps123];refine Y1<|Wm<|Wm ?_;refine Wq (Bi rfl (Aa rfl)) ?_;refine Wq (AO (r:=((L.length:Nat):Int)) (ao rfl) (Aa rfl) (Aa rfl) (ET ZbD)) ?_
 refine AU [0,1] [] [] (c) Zbz rfl rfl ZbC ZbA ZbH Zby ZbE trivial rfl ?_;rintro _ _ ⟨rfl,rfl⟩;refine Kr ?_;refine Y0<|Y1<|Wm ?_;refine Wq (Bi rfl (Aa rfl)) ?_;refine Wm<|Y0<|AWp.block ?_
 refine AC (λu d=>∃k,k<=L.length/\u=L.length-k/\d=⟨[(0,.ptr 0 0),(2,.fn (124+1000000) [0]),(13,.d (Ep L)),(14,.d (ex (.int .i64 (L.length:Nat)))),(15,.d (ex (.int .i64 (k:Nat))))],[.var 103 [.own 1],.row 5 1 (Da (b++Bv L.length++(L.take k).flatMap Gi)),.pin [(A,.own 0)]]⟩) ?le ⟨0,by omega,rfl,rfl⟩ ?round
 case le=>exact Zkf
 case round=>
  rintro u _ ⟨k,C,rfl,rfl⟩;by_cases Q:k<L.length
  .have C:=Df Gi Q
   have I:=RD (L.getD k default) (p _ (BC Q)) (b++Bv L.length++(L.take k).flatMap Gi) ZbX;apply Y1;refine Wq Bb ?_;refine Y0<|Ai<|Ct<|Ys<|Ai<|AWp.block<|Y1 ?_;refine Wq (CE (k:=k) rfl (ao rfl) (Aa rfl) (Aa rfl) rfl Q) ?_;refine Wq Ca ?_;refine Al ?_;refine Sf ?_;refine Y0<|AWp.region<|Wm ?_;refine Wq AH ?_
   refine AU [0,1] [0] [] (I) Zbz rfl rfl ZbC ZbA ZbH Zby ZbE trivial rfl ?_;rintro _ _ ⟨rfl,rfl⟩;refine ZgM ?_;exact Ac ZbT (by exact HpLe.cons (Ad rfl)<|HpLe.cons (OwLe.row (by rw[Ck Gi Q,<-Yaf]))<|HpLe.cons (Ak rfl)<|HpLe.nil)
  .exact Zba
theorem RA(l:List (Nat->Int))(J:Fy (Fz IW) l):Wr 56 (Ep l) (Cs l):=Wr.intro λb F=>by
 have I:=AaR l J b F;refine BD func56 rfl (Ag func56 ZbI ZbI) rfl λv x a=>?_;rw[ntmps56];refine Go ?_;refine ZfM ?_;rintro _ _ ⟨rfl,rfl⟩;refine ZhN ?_
 exact Zbx
theorem AaU(L:List (Nat->RQ×RQ))(p:Fy (Fz VW) L):Wl 271 272 (Gb L) (Br GQ L):=Wl.intro λb F=>by
 have f:=Dk (e:=GQ) (l:=L) λx _=>Id OT x;have V:(Br GQ L).length=(Bv L.length).length+(L.flatMap GQ).length:=Zke
 rw[V]at F;have c:=Dj L.length ZbD b ZbD;refine BD func271 rfl (Ag func271 ZbI ZbI) rfl λv A a=>?_;rw[ntmps271];refine Y1<|Wm<|Wm ?_;refine Wq (Bi rfl (Aa rfl)) ?_;refine Wq (AO (r:=((L.length:Nat):Int)) (ao rfl) (Aa rfl) (Aa rfl) (ET ZbD)) ?_
 refine AU [0,1] [] [] (c) Zbz rfl rfl ZbC ZbA ZbH Zby ZbE trivial rfl ?_;rintro _ _ ⟨rfl,rfl⟩;refine Kr ?_;refine Y0<|Y1<|Wm ?_;refine Wq (Bi rfl (Aa rfl)) ?_;refine Wm<|Y0<|AWp.block ?_
 refine AC (λu d=>∃k,k<=L.length/\u=L.length-k/\d=⟨[(0,.ptr 0 0),(2,.fn (272+1000000) [0]),(13,.d (Gb L)),(14,.d (ex (.int .i64 (L.length:Nat)))),(15,.d (ex (.int .i64 (k:Nat))))],[.var 103 [.own 1],.row 5 1 (Da (b++Bv L.length++(L.take k).flatMap GQ)),.pin [(A,.own 0)]]⟩) ?le ⟨0,by omega,rfl,rfl⟩ ?round
 case le=>exact Zkf
 case round=>
  rintro u _ ⟨k,C,rfl,rfl⟩;by_cases Q:k<L.length
  .have C:=Df GQ Q
   have I:=Aad (L.getD k default) (p _ (BC Q)) (b++Bv L.length++(L.take k).flatMap GQ) ZbX;apply Y1;refine Wq Bb ?_;refine Y0<|Ai<|Ct<|Ys<|Ai<|AWp.block<|Y1 ?_;refine Wq (CE (k:=k) rfl (ao rfl) (Aa rfl) (Aa rfl) rfl Q) ?_;refine Wq Ca ?_;refine Al ?_;refine Sf ?_;refine Y0<|AWp.region<|Wm ?_;refine Wq AH ?_
   refine AU [0,1] [0] [] (I) Zbz rfl rfl ZbC ZbA ZbH Zby ZbE trivial rfl ?_;rintro _ _ ⟨rfl,rfl⟩;refine ZgM ?_;exact Ac ZbT (by exact HpLe.cons (Ad rfl)<|HpLe.cons (OwLe.row (by rw[Ck GQ Q,<-Yaf]))<|HpLe.cons (Ak rfl)<|HpLe.nil)
  .exact Zba
theorem YF(l:List (Nat->RQ×RQ))(J:Fy (Fz VW) l):Wr 205 (Gb l) (EQ l):=Wr.intro λb F=>by
 have I:=AaU l J b F;refine BD func205 rfl (Ag func205 ZbI ZbI) rfl λv x a=>?_;rw[ntmps205];refine Go ?_;refine ZfM ?_;rintro _ _ ⟨rfl,rfl⟩;refine ZhN ?_
 exact Zbx
theorem A2D(s:RQ×List RTm)(Y:SqW s):Wr 211 (AP (Jq s)) (JD s):=Wr.intro λb F=>by
 simp only[JD,Yaa]at F;have c:=Gx s.1 Y.1 (b) ZbL;have A:=Qr s.2 Y.2 (b++CC s.1) ZbL;refine BD func211 rfl (Ag func211 ZbI ZbI) rfl λv x a=>?_;rw[ntmps211];refine ZfJ ?_;rintro _ _ ⟨rfl,rfl⟩;refine Kr ?_;refine ZfK ?_;rintro _ _ ⟨rfl,rfl⟩;refine ZhN ?_
 first | refine Bt RetsA.none rfl ?_ rfl | refine AW RetsA.none rfl ?_ rfl
 exact⟨rfl,by simp only[JD,Yaf];rfl⟩
theorem AaT(L:List (Int))(p:Fy IW L):Wl 204 54 (Np L) (Br Bo L):=Wl.intro λb F=>by
 have f:=Dk (e:=Bo) (l:=L) λx _=>LM x;have V:(Br Bo L).length=(Bv L.length).length+(L.flatMap Bo).length:=Zke
 rw[V]at F;have c:=Dj L.length ZbD b ZbD;refine BD func204 rfl (Ag func204 ZbI ZbI) rfl λv A a=>?_;rw[ntmps204];refine Y1<|Wm<|Wm ?_;refine Wq (Bi rfl (Aa rfl)) ?_;refine Wq (AO (r:=((L.length:Nat):Int)) (ao rfl) (Aa rfl) (Aa rfl) (ET ZbD)) ?_
 refine AU [0,1] [] [] (c) Zbz rfl rfl ZbC ZbA ZbH Zby ZbE trivial rfl ?_;rintro _ _ ⟨rfl,rfl⟩;refine Kr ?_;refine Y0<|Y1<|Wm ?_;refine Wq (Bi rfl (Aa rfl)) ?_;refine Wm<|Y0<|AWp.block ?_
 refine AC (λu d=>∃k,k<=L.length/\u=L.length-k/\d=⟨[(0,.ptr 0 0),(2,.fn (54+1000000) [0]),(13,.d (Np L)),(14,.d (ex (.int .i64 (L.length:Nat)))),(15,.d (ex (.int .i64 (k:Nat))))],[.var 103 [.own 1],.row 5 1 (Da (b++Bv L.length++(L.take k).flatMap Bo)),.pin [(A,.own 0)]]⟩) ?le ⟨0,by omega,rfl,rfl⟩ ?round
 case le=>exact Zkf
 case round=>
  rintro u _ ⟨k,C,rfl,rfl⟩;by_cases Q:k<L.length
  .have C:=Df Bo Q
   have I:=FN (L.getD k default) (p _ (BC Q)) (b++Bv L.length++(L.take k).flatMap Bo) ZbX;apply Y1;refine Wq Bb ?_;refine Y0<|Ai<|Ct<|Ys<|Ai<|AWp.block<|Y1 ?_;refine Wq (CE (k:=k) rfl (ao rfl) (Aa rfl) (Aa rfl) rfl Q) ?_;refine Wq AT ?_;refine Wa<|Y0<|AWp.region<|Wm<|Wm ?_
   refine AU [0,1] [0] [] (I) Zbz rfl rfl ZbC ZbA ZbH Zby ZbE trivial rfl ?_;rintro _ _ ⟨rfl,rfl⟩;refine ZgM ?_;exact Ac ZbT (by exact HpLe.cons (Ad rfl)<|HpLe.cons (OwLe.row (by rw[Ck Bo Q,<-Yaf]))<|HpLe.cons (Ak rfl)<|HpLe.nil)
  .exact Zba
theorem AbX(L:List (RQ×RQ))(p:Fy VW L):Wl 208 209 (VG L) (Br GC L):=Wl.intro λb F=>by
 have f:=Dk (e:=GC) (l:=L) λx _=>OT x;have V:(Br GC L).length=(Bv L.length).length+(L.flatMap GC).length:=Zke
 rw[V]at F;have c:=Dj L.length ZbD b ZbD;refine BD func208 rfl (Ag func208 ZbI ZbI) rfl λv A a=>?_;rw[ntmps208];refine Y1<|Wm<|Wm ?_;refine Wq (Bi rfl (Aa rfl)) ?_;refine Wq (AO (r:=((L.length:Nat):Int)) (ao rfl) (Aa rfl) (Aa rfl) (ET ZbD)) ?_
 refine AU [0,1] [] [] (c) Zbz rfl rfl ZbC ZbA ZbH Zby ZbE trivial rfl ?_;rintro _ _ ⟨rfl,rfl⟩;refine Kr ?_;refine Y0<|Y1<|Wm ?_;refine Wq (Bi rfl (Aa rfl)) ?_;refine Wm<|Y0<|AWp.block ?_
 refine AC (λu d=>∃k,k<=L.length/\u=L.length-k/\d=⟨[(0,.ptr 0 0),(2,.fn (209+1000000) [0]),(13,.d (VG L)),(14,.d (ex (.int .i64 (L.length:Nat)))),(15,.d (ex (.int .i64 (k:Nat))))],[.var 103 [.own 1],.row 5 1 (Da (b++Bv L.length++(L.take k).flatMap GC)),.pin [(A,.own 0)]]⟩) ?le ⟨0,by omega,rfl,rfl⟩ ?round
 case le=>exact Zkf
 case round=>
  rintro u _ ⟨k,C,rfl,rfl⟩;by_cases Q:k<L.length
  .have C:=Df GC Q
   have I:=PJ (L.getD k default) (p _ (BC Q)) (b++Bv L.length++(L.take k).flatMap GC) ZbX;apply Y1;refine Wq Bb ?_;refine Y0<|Ai<|Ct<|Ys<|Ai<|AWp.block<|Y1 ?_;refine Wq (CE (k:=k) rfl (ao rfl) (Aa rfl) (Aa rfl) rfl Q) ?_;refine Wq Ca ?_;refine Al ?_;refine Sf ?_;refine Y0<|AWp.region<|Wm ?_;refine Wq AH ?_
   refine AU [0,1] [0] [] (I) Zbz rfl rfl ZbC ZbA ZbH Zby ZbE trivial rfl ?_;rintro _ _ ⟨rfl,rfl⟩;refine ZgM ?_;exact Ac ZbT (by exact HpLe.cons (Ad rfl)<|HpLe.cons (OwLe.row (by rw[Ck GC Q,<-Yaf]))<|HpLe.cons (Ak rfl)<|HpLe.nil)
  .exact Zba
theorem AbV(L:List (RQ×List RTm))(p:Fy SqW L):Wl 210 211 (UR L) (Br JD L):=Wl.intro λb F=>by
 have f:=Dk (e:=JD) (l:=L) λx _=>ZO x;have V:(Br JD L).length=(Bv L.length).length+(L.flatMap JD).length:=Zke
 rw[V]at F;have c:=Dj L.length ZbD b ZbD;refine BD func210 rfl (Ag func210 ZbI ZbI) rfl λv A a=>?_;rw[ntmps210];refine Y1<|Wm<|Wm ?_;refine Wq (Bi rfl (Aa rfl)) ?_;refine Wq (AO (r:=((L.length:Nat):Int)) (ao rfl) (Aa rfl) (Aa rfl) (ET ZbD)) ?_
 refine AU [0,1] [] [] (c) Zbz rfl rfl ZbC ZbA ZbH Zby ZbE trivial rfl ?_;rintro _ _ ⟨rfl,rfl⟩;refine Kr ?_;refine Y0<|Y1<|Wm ?_;refine Wq (Bi rfl (Aa rfl)) ?_;refine Wm<|Y0<|AWp.block ?_
 refine AC (λu d=>∃k,k<=L.length/\u=L.length-k/\d=⟨[(0,.ptr 0 0),(2,.fn (211+1000000) [0]),(13,.d (UR L)),(14,.d (ex (.int .i64 (L.length:Nat)))),(15,.d (ex (.int .i64 (k:Nat))))],[.var 103 [.own 1],.row 5 1 (Da (b++Bv L.length++(L.take k).flatMap JD)),.pin [(A,.own 0)]]⟩) ?le ⟨0,by omega,rfl,rfl⟩ ?round
 case le=>exact Zkf
 case round=>
  rintro u _ ⟨k,C,rfl,rfl⟩;by_cases Q:k<L.length
  .have C:=Df JD Q
   have I:=A2D (L.getD k default) (p _ (BC Q)) (b++Bv L.length++(L.take k).flatMap JD) ZbX;apply Y1;refine Wq Bb ?_;refine Y0<|Ai<|Ct<|Ys<|Ai<|AWp.block<|Y1 ?_;refine Wq (CE (k:=k) rfl (ao rfl) (Aa rfl) (Aa rfl) rfl Q) ?_;refine Wq Ca ?_;refine Al ?_;refine Sf ?_;refine Y0<|AWp.region<|Wm ?_;refine Wq AH ?_
   refine AU [0,1] [0] [] (I) Zbz rfl rfl ZbC ZbA ZbH Zby ZbE trivial rfl ?_;rintro _ _ ⟨rfl,rfl⟩;refine ZgM ?_;exact Ac ZbT (by exact HpLe.cons (Ad rfl)<|HpLe.cons (OwLe.row (by rw[Ck JD Q,<-Yaf]))<|HpLe.cons (Ak rfl)<|HpLe.nil)
  .exact Zba
theorem AbW(L:List (Nat->RQ))(p:Fy (Fz QB) L):Wl 212 213 (A03 L) (Br Pz L):=Wl.intro λb F=>by
 have f:=Dk (e:=Pz) (l:=L) λx _=>Id IY x;have V:(Br Pz L).length=(Bv L.length).length+(L.flatMap Pz).length:=Zke
 rw[V]at F;have c:=Dj L.length ZbD b ZbD;refine BD func212 rfl (Ag func212 ZbI ZbI) rfl λv A a=>?_;rw[ntmps212];refine Y1<|Wm<|Wm ?_;refine Wq (Bi rfl (Aa rfl)) ?_;refine Wq (AO (r:=((L.length:Nat):Int)) (ao rfl) (Aa rfl) (Aa rfl) (ET ZbD)) ?_
 refine AU [0,1] [] [] (c) Zbz rfl rfl ZbC ZbA ZbH Zby ZbE trivial rfl ?_;rintro _ _ ⟨rfl,rfl⟩;refine Kr ?_;refine Y0<|Y1<|Wm ?_;refine Wq (Bi rfl (Aa rfl)) ?_;refine Wm<|Y0<|AWp.block ?_
 refine AC (λu d=>∃k,k<=L.length/\u=L.length-k/\d=⟨[(0,.ptr 0 0),(2,.fn (213+1000000) [0]),(13,.d (A03 L)),(14,.d (ex (.int .i64 (L.length:Nat)))),(15,.d (ex (.int .i64 (k:Nat))))],[.var 103 [.own 1],.row 5 1 (Da (b++Bv L.length++(L.take k).flatMap Pz)),.pin [(A,.own 0)]]⟩) ?le ⟨0,by omega,rfl,rfl⟩ ?round
 case le=>exact Zkf
 case round=>
  rintro u _ ⟨k,C,rfl,rfl⟩;by_cases Q:k<L.length
  .have C:=Df Pz Q
   have I:=A4Y (L.getD k default) (p _ (BC Q)) (b++Bv L.length++(L.take k).flatMap Pz) ZbX;apply Y1;refine Wq Bb ?_;refine Y0<|Ai<|Ct<|Ys<|Ai<|AWp.block<|Y1 ?_;refine Wq (CE (k:=k) rfl (ao rfl) (Aa rfl) (Aa rfl) rfl Q) ?_;refine Wq Ca ?_;refine Al ?_;refine Sf ?_;refine Y0<|AWp.region<|Wm ?_;refine Wq AH ?_
   refine AU [0,1] [0] [] (I) Zbz rfl rfl ZbC ZbA ZbH Zby ZbE trivial rfl ?_;rintro _ _ ⟨rfl,rfl⟩;refine ZgM ?_;exact Ac ZbT (by exact HpLe.cons (Ad rfl)<|HpLe.cons (OwLe.row (by rw[Ck Pz Q,<-Yaf]))<|HpLe.cons (Ak rfl)<|HpLe.nil)
  .exact Zba
theorem Wo{o:Oper}{r:IntKind}{lo L:Option Operand}{i j:Int}(Y:o.op=.slice t x lo L none)(J:HW H (vC x)=some (slD k h vm))(N:Tab P t (.slice n) b T z)(Q:Tab P n d m c u)(l:m=h)(xd:(∃y,lo=some y/\vC y=.d (ex (.int r i)))\/(lo=none/\i=0))(xi:(∃y,L=some y/\vC y=.d (ex (.int r j)))\/(L=none/\j=vm.length))(R:0<=i)(xb:i<=j)(a:j<=vm.length):Quiet P H o vC (.d (slD k h ((vm.take j.toNat).drop i.toNat))):=by
 refine⟨λbase s W S X xc w C=>?_⟩;obtain⟨A,G,Z,E,F,M⟩:=Ew w (C x Zec) J;subst l;obtain⟨i,rfl⟩:=YbH R;obtain⟨j,rfl⟩:=YbH (Yek R xb);have xj:i<=j:=by omega
 have xh:j<=vm.length:=by omega
 have xm:∃xg,lo.map S=xg/\((xg=some (.int r i))\/(xg=none/\i=0)):=by
  rcases xd with⟨y,rfl,O⟩ | ⟨rfl,hi0⟩
  .exact Zbb
  .exact Zjy
 have xl:∃xe,L.map S=xe/\((xe=some (.int r j))\/(xe=none/\j=vm.length)):=by
  rcases xi with⟨y,rfl,O⟩ | ⟨rfl,hi0⟩
  .exact Zbb
  .exact Zjy
 obtain⟨xg,f,e⟩:=xm;obtain⟨xe,U,v⟩:=xl;have xk:(j:Int)<=G:=by omega
 have xf:(i:Int)<=j:=by omega
 have K:(Instr.sliceBounds true vm.length G xg xe none).run P s.w=.ok (i,j,G) s.w:=by
  rcases e with rfl | ⟨rfl,rfl⟩<;>rcases v with rfl | ⟨rfl,rfl⟩<;>simp[Instr.sliceBounds,Instr.sliceBound,asIntOf,xk,xf,xj,xh,E]
  all_goals first | omega | simp[xj,xh,E] | skip
 have xa:(execOp S o).run P s.w=.ok (.value (.slice (if G=i then A else A.map (·.add (i*m))) (j-i) (G-i))) s.w:=by
  simp only[execOp,Y,f,U,Z,YeB,Instr.sliceAt,Sem.run_bind,run_underlying N.und,Result.andThen_ok,Instr.slice,K,Q.run_size,Sem.run_pure]
 have q:((vm.take (j:Int).toNat).drop (i:Int).toNat).length=j-i:=Zip
 refine Cc xa ⟨GS.Le.refl s,(if G=i then A else A.map (·.add (i*m))),G-i,by rw[q],by rw[q];omega,by omega,λH=>?_⟩;rw[q]at H;obtain⟨g,p,rfl,V⟩:=M ZbD;refine⟨g,p+i*m,?_,λB I=>?_⟩
 .rw [Yai ZbD]
  simp[Addr.add_lit]
 .rw [q]at I
  rw[show(j:Int).toNat=j from rfl,show(i:Int).toNat=i from rfl];rw[TN,Oz ZbD];have:=V (i+B) ZbD;exact ZiZ
theorem UA{hp:List Ow}{arg:Operand->AV}{dd:Option Tmp}{ty:TypeId}{ps:String}{af:Array Edge}{gd:Option (Nat×Bool)}{lo hi:Option Operand}{rows:List (List D)}{κ:IntKind}{i j:Int}(E:HW hp (arg x)=some (slD k h rows))(M:Tab P U (.slice n) b T z)(A:Tab P n d m c u)(t:m=h)(l:(∃y,lo=some y/\arg y=.d (ex (.int κ i)))\/(lo=none/\i=0))(C:(∃y,hi=some y/\arg y=.d (ex (.int κ j)))\/(hi=none/\j=rows.length))(B:0<=i)(q:i<=j)(a:j<=rows.length):Quiet P hp ⟨dd,.slice U x lo hi none,ty,ps,af,gd⟩ arg (.d (slD k h ((rows.take j.toNat).drop i.toNat))):=Wo (o:=⟨dd,.slice U x lo hi none,ty,ps,af,gd⟩) rfl E M A t l C B q a
theorem EK{v:Value}{k:IntKind}(E:vC x=.d (ex v))(B:Tab P U (.int k) n b u):Quiet P H ⟨vF,.makeInterface U x,t,vJ,vK,vV⟩ vC (.d (ex (.iface U v))):=by
 refine⟨λbase s W i F y d h=>?_⟩;have A:=h x ZcQ;rw[E]at A;have Z:i x=v:=A;refine Cc (v:=.iface U v) ?_ ⟨GS.Le.refl s,rfl⟩;simp[execOp,Z,Instr.makeInterface,run_underlying B.und]
theorem A5O(b:List Nat)(n:Nat):(Da b).take n=Da (b.take n):=by simp[Da,YdU]
theorem A5Q(b:List Nat)(n:Nat):(Da b).drop n=Da (b.drop n):=by simp[Da,YdT]
theorem Dz{e n b T:Nat}(E:vC x=.d (GX T l))(M:Tab P U (.slice e) n b z):Quiet P H ⟨vF,.call { callee:=.builtin .len,args:=#[x],argTypes:=#[U] },t,vJ,vK,vV⟩ vC (.d (ex (.int .i64 (l.length:Nat)))):=Bi (f:=λz:Nat=>[ex (.int .u8 (z:Nat))]) (by rw[E];rfl) M
theorem A6f{hp:List Ow}{arg:Operand->AV}{dd:Option Tmp}{ty:TypeId}{ps:String}{af:Array Edge}{gd:Option (Nat×Bool)}{κ:IntKind}(E:arg x=.d (GX k l))(O:arg y=.d (ex (.int κ (h:Nat))))(M:Tab P U (.slice n) b T z)(B:Tab P n d m c u)(t:m=1)(C:h<=l.length):Quiet P hp ⟨dd,.slice U x none (some y) none,ty,ps,af,gd⟩ arg (.d (GX k (l.take h))):=by
 have A:=UA (P:=P) (hp:=hp) (arg:=arg) (dd:=dd) (ty:=ty) (ps:=ps) (af:=af) (gd:=gd) (lo:=none) (hi:=some y) (rows:=Da l) (κ:=κ) (i:=0) (j:=(h:Nat)) (by rw[E];rfl) M B t (.inr ⟨rfl,rfl⟩) (.inl ⟨y,rfl,O⟩) ZbD ZbD (by rw[Db];omega);rw[show((h:Nat):Int).toNat=h from rfl,A5O]at A;exact A
theorem A6k{hp:List Ow}{arg:Operand->AV}{dd:Option Tmp}{ty:TypeId}{ps:String}{af:Array Edge}{gd:Option (Nat×Bool)}{κ:IntKind}(E:arg x=.d (GX k l))(O:arg y=.d (ex (.int κ (h:Nat))))(M:Tab P U (.slice n) b T z)(B:Tab P n d m c u)(t:m=1)(C:h<=l.length):Quiet P hp ⟨dd,.slice U x (some y) none none,ty,ps,af,gd⟩ arg (.d (GX k (l.drop h))):=by
 have A:=UA (P:=P) (hp:=hp) (arg:=arg) (dd:=dd) (ty:=ty) (ps:=ps) (af:=af) (gd:=gd) (lo:=some y) (hi:=none) (rows:=Da l) (κ:=κ) (i:=(h:Nat)) (j:=((Da l).length:Nat)) (by rw[E];rfl) M B t (.inl ⟨y,rfl,O⟩) (.inr ⟨rfl,rfl⟩) ZbD (by rw[Db];omega) ZbD;rw[show((h:Nat):Int).toNat=h from rfl,show(((Da l).length:Nat):Int).toNat=(Da l).length from rfl,YaV,A5Q]at A;exact A
theorem ConP.cut{Q R:AV->List Ow->Prop}{T:List PanicEntry}{N:Prop}(h:ConP P vd i H Q T N)(l:∀r z,Q r z->A8J r=true/\(∀(A:Nat) o,(z.take H.length)[A]? = some o->o.below H.length)/\R r (z.take H.length)):ConP P vd i H R T N:=
 ⟨h.1,λs W K B C L S n=>(h.2 s W K B C L S n).mono λe E J=>J.imp (λ⟨v,b,j,M,r,z,O,I,X,p⟩=>by
  obtain⟨G,F,y⟩:=l r z O
  cases r with
  |d x=>exact⟨v,b,j,M,.d x,_,y,I,X,p.take F⟩
  |_=>cases G) λh=>h⟩
abbrev rH(T:TypeId)(l:List Nat):List Ow:=[.var 92 [.d (GX T l)]]
abbrev rCh:List PanicEntry:=[{ v:=.iface 49 (.int .i64 3),recovered:=false }]
structure Byt(l:List Nat):Prop where
 lt:∀z∈l,z<256
 len:l.length<=1000000000
theorem Byt.drop(h:Byt l)(k:Nat):Byt (l.drop k):=⟨λz o=>h.lt z (Ych o),by rw[YbQ];have:=h.len;omega⟩
theorem Ru(h:H.take 1=rH t l):∀(i:Nat) o,(H.take 1)[i]? = some o->o.below 1:=λi o K=>by
 rw[h]at K
 match i,K with
 |0,K=>cases K;intro I A;rw[YaC.1 A];rfl
def Rdr{A:Type}(f:FuncId)(d:A->D)(p:Rd A):Prop:=∀(T:TypeId) l,Byt l->ConP prog f [.ptr 0 0] (rH T l) (λr z=>∃x m,p l=some (x,m)/\Byt m/\r=.d (d x)/\z=rH T m) rCh (p l=none)
theorem Rdr.intro{f:FuncId}{d:e->D}{p:Rd e}(h:∀(T:TypeId) l,Byt l->ConP prog f [.ptr 0 0] (rH T l) (λr z=>∃x m,p l=some (x,m)/\Byt m/\r=.d (d x)/\z.take 1=rH T m) rCh (p l=none)):Rdr f d p:=λT l J=>(h T l J).cut λr z ⟨x,m,A,B,L,S⟩=>by
 subst L;exact⟨rfl,Ru S,x,m,A,B,rfl,S⟩
theorem A1T(T:TypeId)(l:List Nat)(J:Byt l)(n:Nat)(f:n<1000):ConP prog 305 [.ptr 0 0,.d (ex (.int .u64 (n:Nat)))] (rH T l) (λr z=>n<=l.length/\r=.d (GX T (l.take n))/\z=rH T (l.drop n)) rCh (l.length<n):=by
 refine ConP.cut (Q:=λr z=>n<=l.length/\r=.d (GX T (l.take n))/\z.take 1=rH T (l.drop n)) ?_ λr z ⟨A,B,L⟩=>by
  subst B;exact⟨rfl,Ru L,A,rfl,L⟩
 have q:=J.len;have F:=Db l;refine Bu func305 rfl (Ag func305 ZbI ZbI) rfl λv x=>?_;rw[ntmps305];refine Y1<|Wa<|Y0<|Ai<|Y1<|Wm<|Wm ?_;refine Wq (BZ (ao rfl)) ?_;refine Wq AB ?_;refine Wq Cm ?_;refine Wq (Dz (ao rfl) (Aa rfl)) ?_;refine Wq (AO (r:=((l.length:Nat):Int)) (ao rfl) (Aa rfl) (Aa rfl) (ET ZbD)) ?_;refine Wq Ci ?_;apply Y0
 by_cases h:l.length<n
 .refine Zha ?_
  refine Dr (ao rfl) ?_;exact(by repeat (first | exact AM (h) | apply AF | apply PanQ.block | apply PanQ.loop):PanQ _ _) _
 .refine Go ?_;refine Wq (BZ (ao rfl)) ?_;refine Go ?_;refine Wq (A6f (ao rfl) (ao rfl) (Aa rfl) (Aa rfl) rfl ZbD) ?_;refine Go ?_;refine Wq (BZ (ao rfl)) ?_;refine Go ?_;refine Wq (A6k (ao rfl) (ao rfl) (Aa rfl) (Aa rfl) rfl ZbD) ?_;refine Wq (BZ (ao rfl)) ?_;refine Wq AB ?_;refine En (ao rfl) (ao rfl) rfl (Aa rfl) CX rfl rfl ?_;refine Go ?_
  refine FinP.ret (RetsA.one rfl) rfl ?_ rfl;exact⟨by omega,rfl,rfl⟩
def Wb(f:FuncId)(x:D)(e:List Nat):Prop:=∀b,b.length+e.length<=1000000000000->Con prog f [.own 0,.d x] [.row 5 1 (Da b)] [0] (λr z=>r=.own 0/\z=[.row 5 1 (Da (b++e))])
theorem Con.cutB(h:Con P vd i H l vy)(G:∀r z,vy r z->r.below H.length=true/\(∀(A:Nat) o,(z.take H.length)[A]? = some o->o.below H.length)/\xf r (z.take H.length)):Con P vd i H l xf:=
 ⟨h.1,λs W I B C L S n=>(h.2 s W I B C L S n).mono λe N ⟨v,b,j,O,r,z,Q,M,X,p⟩=>by
  obtain⟨E,F,y⟩:=G r z Q;have J:(z.take H.length).length=H.length:=by rw[YaO];have:=p.len;omega
  refine⟨v,b,j,O,r,_,y,M,?_,p.take F⟩;rw[J]
  cases r with
  |d x=>exact X
  |ptr A off=>exact Zkg
  |own A=>exact Zkg
  |fn vd Y=>exact⟨λA K=>by have:=Yaj.1 E A K;simpa[Ybm]using this,X.2⟩⟩
theorem Wb.intro{f:FuncId}{x:D}{e:List Nat}(h:∀b,b.length+e.length<=1000000000000->Con prog f [.own 0,.d x] [.row 5 1 (Da b)] [0] (λr z=>r=.own 0/\z.take 1=[.row 5 1 (Da (b++e))])):Wb f x e:=λb F=>(h b F).cutB λr z ⟨A,B⟩=>by
 subst A;refine⟨rfl,λi o K=>?_,rfl,B⟩;have B:z.take 1=[.row 5 1 (Da (b++e))]:=B;change (z.take 1)[i]? = some o at K;rw[B]at K
 match i,K with
 |0,K=>cases K;trivial
theorem Dn(t:P.funcs[vd]? = some vP)(F:vP.body=some vp)(N:∀i w,(callFunc vd i).run P w=.ok (.enter vd i) w)(f:Nat.ble i.length vP.ntmps=true)
  (h:∀(v:An) (O:Value),AWp P v vP.ntmps vp (FinC P vP [0] [O] vy) ⟨IZ 0 i,[vs,.pin []]⟩):Con P vd i [vs] [0] vy:=
 SR t F N f λv K r=>by
  match K,r with
  |[O],_=>exact h v O
section
variable {P:Program} {hp:List Ow} {arg:Operand->AV} {dd:Option Tmp} {ty:TypeId} {ps:String} {af:Array Edge} {gd:Option (Nat×Bool)} {T U:TypeId} {x y:Operand} {k:IntKind} {a b r:Int}
theorem Md(E:arg x=.d (ex (.int k a)))(O:arg y=.d (ex (.int k b)))(F:b≠0)(X:a.tmod b=r):Quiet P hp ⟨dd,.binOp .rem T x y U,ty,ps,af,gd⟩ arg (.d (ex (.int k r))):=
 CN rfl E O λw=>by simp[eqGuard,binOp,Op.intDiv,F,X]
theorem Az{I:Array Field}{f n b g F id off r:Nat}{N:Field}(E:arg x=.ptr id off)(G:Tab P t (.struct I) n b z)(C:I[f]? = some N)(A:Tab P N.type d g F u)(B:Nat.beq g 0=false)(X:off+N.offset=r):Quiet P hp ⟨dd,.fieldAddr t x f,ty,ps,af,gd⟩ arg (.ptr id r):=X▸Il E G C A B
end
theorem GM(n:Nat)(f:n<18446744073709551616):Wb 118 (ex (.int .u64 (n:Nat))) (Bv n):=Wb.intro λb F=>by
 refine Dn func118 rfl (Ag func118 ZbI ZbI) rfl λv=>?_;rw[ntmps118];intro O;refine Go ?_;refine AC (λu d=>∃y g,u=g/\g<18446744073709551616/\y++Bv g=b++Bv n/\d=⟨[(0,.own 0),(1,.d (ex (.int .u64 (g:Nat))))],[.row 5 1 (Da y),.pin []]⟩) ?le ⟨b,n,rfl,f,rfl,rfl⟩ ?round
 case le=>exact Ac ZeH (by exact Yr<|HpLe.cons (Ak rfl)<|HpLe.nil)
 case round=>
  rintro g _ ⟨y,_,rfl,j,A,rfl⟩;have q:(y++Bv g).length=(b++Bv n).length:=by rw[A]
  rw[Yaa,Yaa]at q;have B:=HE g;by_cases h:128<=g
  .have Z:Bv g=(g%128+128)::Bv (g/128):=by rw [Bv, Yai ZbD]
   have s:Bv g=[g%128+128]++Bv (g/128):=Z;rw[Z,Yav]at q;have J:=Db y;have k:=HE (g/128);refine Ai<|Y1<|Wm ?_;refine Wq Bb ?_;refine Y0<|Ct<|Ys<|AWp.block<|Y1<|Wm<|Wm ?_;refine Wq (Md (r:=((g%128:Nat):Int)) (ao rfl) (ao rfl) ZbH Zda) ?_;refine Wq (AO (r:=((g%128:Nat):Int)) (ao rfl) (Aa rfl) (Aa rfl) ZcB) ?_;refine Wq (DN (r:=((g%128+128:Nat):Int)) (ao rfl) (ao rfl) ZcB) ?_;(refine De rfl rfl ?_;(refine DF (Aa rfl) (Aa rfl) rfl rfl rfl rfl rfl ?_;(repeat ((first | refine⟨_,Aw (ao rfl),?_⟩ | refine⟨_,Po rfl,?_⟩);refine⟨_,rfl,?_⟩));refine⟨_,rfl,?_⟩));(refine EA (r2:=[[ex (.int .u8 ((g%128+128:Nat):Int))]]) (ao rfl) rfl rfl (Aa rfl) (Aa rfl) rfl rfl Zdt Zdt rfl ZbJ rfl ?_);refine Wa<|Y0<|AWp.region<|Wm ?_;refine Wq (GT (r:=((g/128:Nat):Int)) (ao rfl) (ao rfl) ZbH ZcM) ?_;refine Wa<|AWl.nil<|Bh ?_
   refine Ah (g/128) ZbD ⟨y++[g%128+128],g/128,rfl,by omega,by rw[Yaf,<-s];exact A,rfl⟩ ?_;exact Ac ZeH (by(refine HpLe.cons (OwLe.row (by rw[IJ];rfl)) ?_);exact HpLe.cons (Ak rfl)<|HpLe.nil)
  .have Z:Bv g=[g]:=by rw [Bv, Yan ZbD]
   rw[Z,Yav]at q;rw[Z]at A;have J:=Db y;refine Ai<|Y1<|Wm ?_;refine Wq AN ?_;refine Y0<|Cf<|Cg<|BE<|BR<|BH<|Yn<|Y1<|Wm<|Wm ?_;refine Wq (AO (r:=((g:Nat):Int)) (ao rfl) (Aa rfl) (Aa rfl) ZcB) ?_;(refine De rfl rfl ?_;(refine DF (Aa rfl) (Aa rfl) rfl rfl rfl rfl rfl ?_;(repeat ((first | refine⟨_,Aw (ao rfl),?_⟩ | refine⟨_,Po rfl,?_⟩);refine⟨_,rfl,?_⟩));refine⟨_,rfl,?_⟩));(refine EA (r2:=[[ex (.int .u8 ((g:Nat):Int))]]) (ao rfl) rfl rfl (Aa rfl) (Aa rfl) rfl rfl Zdt Zdt rfl ZbJ rfl ?_);refine Wa<|Y0<|BV ?_
   first | refine Bt (RetsA.one rfl) rfl ?_ rfl | refine AW (RetsA.one rfl) rfl ?_ rfl
   exact⟨rfl,by rw[<-A,IJ];rfl⟩
theorem FO(z:Int)(o:IW z):Wb 52 (ex (.int .i64 z)) (Bo z):=Wb.intro λb F=>by
 obtain⟨A,B⟩:=o;by_cases h:0<=z
 .have e:Bo z=Bv (2*z.toNat):=by rw [Bo, RF, Yai ZbD]
  rw[e]at F ⊢;have I:=GM (2*z.toNat) ZbD b F;refine Dn func52 rfl (Ag func52 ZbI ZbI) rfl λv=>?_;rw[ntmps52];intro O;refine Y1<|Wa<|Y0<|Ai<|Y1<|Wm ?_;refine Wq AN ?_;refine Y0<|Cf<|Ys<|Y1<|Wm<|Wm ?_;refine Wq (AO (r:=((z.toNat:Nat):Int)) (ao rfl) (Aa rfl) (Aa rfl) ZcJ) ?_;refine Wq (GU (r:=((2*z.toNat:Nat):Int)) (ao rfl) (ao rfl) ZcJ) ?_
  exact Zbc
 .have e:Bo z=Bv (2*(-(z+1)).toNat+1):=by rw [Bo, RF, Yan ZbD]
  rw[e]at F ⊢;have I:=GM (2*(-(z+1)).toNat+1) ZbD b F;refine Dn func52 rfl (Ag func52 ZbI ZbI) rfl λv=>?_;rw[ntmps52];intro O;refine Y1<|Wa<|Y0<|Ai<|Y1<|Wm ?_;refine Wq Bb ?_;refine Y0<|Ct<|Y1<|Wm<|Wm ?_;refine Wq Wn ?_;refine Wq A0L ?_;refine Wq (AO (r:=(((-(z+1)).toNat:Nat):Int)) (ao rfl) (Aa rfl) (Aa rfl) ZcJ) ?_;refine Wq (GU (r:=((2*(-(z+1)).toNat:Nat):Int)) (ao rfl) (ao rfl) ZcJ) ?_;refine Wq (DN (r:=((2*(-(z+1)).toNat+1:Nat):Int)) (ao rfl) (ao rfl) ZcJ) ?_
  exact Zbc
end
