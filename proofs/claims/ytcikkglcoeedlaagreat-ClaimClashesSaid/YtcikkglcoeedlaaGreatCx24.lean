/- Part 24 of the proof of claimClashes_holds. No condition. -/
import Derived.Laws.BytesString
import Derived.Laws.Cells
import Derived.Laws.Strings
import Derived.Test.YtcikkglcoeedlaaGreatCx19
import Derived.Test.YtcikkglcoeedlaaGreatCx20
import Derived.Test.YtcikkglcoeedlaaGreatCx21
set_option linter.unusedSimpArgs false
set_option linter.unusedVariables false
set_option maxRecDepth 100000
namespace Go.Proofs.YtcikkglcoeedlaaGreat
variable{vs:Array TypeId}{vn:Code}{r vu:D}{vb:FuncId}{s:GS}{o:List AV}{c vk uU:List D}{l f vm:List Nat}{vJ:List Operand}{H vw:List Ow}{n b T:Nat}{uM:Nat->List D}{x y:Operand}{vv:Operand->AV}{P:Program}{j:Type}{t U:TypeId}{z v ui:Value}
section
open Go.RowKit
def Cy(b:List Nat):List (List D):=b.map λz=>[ex (.int .u8 (z:Nat))]
def FC(T:TypeId)(b:List Nat):D:=slD T 1 (Cy b)
def byS(b:List Nat):ByteArray:=(b.map λz:Nat=>(z:Int)).foldl (λr n=>r.push (UInt8.ofNat n.toNat)) ByteArray.empty
def Yy(b:List Nat):D:=ex (.string (byS b))
theorem CB(b:List Nat):(Cy b).length=b.length:=by simp[Cy]
theorem A1l{k:Nat}(h:k<l.length):(Cy l).getD k []=[ex (.int .u8 ((l.getD k 0:Nat):Int))]:=by
 simp[Cy,h]
theorem He(b c:List Nat):Cy (b++c)=Cy b++Cy c:=by simp[Cy]
theorem Us:∀(b:List Nat) (r:ByteArray),((b.map λz:Nat=>(z:Int)).foldl (λr n=>r.push (UInt8.ofNat n.toNat)) r).data=r.data++(b.map UInt8.ofNat).toArray
 |[],r=>by simp
 |z::b,r=>by
  rw[List.map_cons,List.foldl_cons,Us b];simp
theorem Ur(b:List Nat):(byS b).toList=b.map UInt8.ofNat:=by
 rw[ByteArray.toList_eq,byS,Us];simp
theorem A0d:∀{b c:List Nat},(∀z∈b,z<256)->(∀z∈c,z<256)->b.map UInt8.ofNat=c.map UInt8.ofNat->b=c
 |[],[],_,_,_=>rfl
 |[],_::_,_,_,h=>by simp at h
 |_::_,[],_,_,h=>by simp at h
 |z::b,y::c,E,G,h=>by
  simp only[List.map_cons,List.cons.injEq]at h;have d:=congrArg UInt8.toNat h.1;rw[UInt8.toNat_ofNat',UInt8.toNat_ofNat',Nat.mod_eq_of_lt (E z List.mem_cons_self),Nat.mod_eq_of_lt (G y List.mem_cons_self)]at d;rw[d,A0d (λx C=>E x (List.mem_cons_of_mem _ C)) (λx C=>G x (List.mem_cons_of_mem _ C)) h.2]
theorem XY(E:∀z∈l,z<256)(G:∀z∈f,z<256):((byS l).toList==(byS f).toList)=decide (l=f):=by
 rw[Ur,Ur];by_cases h:l=f
 .subst h;simp
 .rw [decide_eq_false h]
  exact beq_eq_false_iff_ne.2 λe=>h (A0d E G e)
theorem A3b(w:World)(l:List Nat)(A:Option Addr)(c:Nat)(V:0<(Cy l).length->∃b o,A=some ⟨b,o,none⟩/\(∀k,k<(Cy l).length->((Cy l).getD k []).length=1/\Lies s b (o+k*1) n ((Cy l).getD k [])))(C:w=s.w):(Conv.bytesToString (.slice A l.length c)).run P w=.ok (.string (byS l)) w:=by
 subst C;by_cases B:0<l.length
 .obtain ⟨g, o, rfl, m⟩:=V (by rw [CB]; exact B)
  refine run_bytesToString s.w ⟨g,o,none⟩ l.length c (l.map λz:Nat=>(z:Int)) ?_
  have:=run_loadCells (P:=P) (w:=s.w) ⟨g,o,none⟩ l.length (λj=>.int .u8 ((l.getD j 0:Nat):Int)) λj i=>by
   obtain⟨-,y⟩:=m j (by rw[CB];exact i);rw[A1l i]at y;obtain⟨u,e,-,E⟩:=y.cell (k:=0) ZbK;have E:u=.int .u8 ((l.getD j 0:Nat):Int):=E;rw[E]at e
   have U:(⟨g,o,none⟩:Addr).add j=⟨g,o+j,none⟩:=by
    unfold Addr.add;split
    .rename_i B;subst B;rfl
    .rfl
   rw[U];simpa using e
  rw[this];congr 1;apply Array.ext';apply List.ext_getElem?;intro j;simp;by_cases i:j<l.length
  .simp [i]
  .simp [i]
 .obtain rfl:l=[]:=List.eq_nil_of_length_eq_zero Zbx
  have v:∀A c,(Conv.bytesToString (.slice A 0 c)).run P s.w=.ok (.string ByteArray.empty) s.w:=λA c=>by
   cases A with
   |none=>rfl
   |some a=>exact run_bytesToString s.w a 0 c [] rfl
  exact v A c
section
variable {P:Program} {hp:List Ow} {arg:Operand->AV} {dd:Option Tmp} {ty:TypeId} {ps:String} {af:Array Edge} {gd:Option (Nat×Bool)}
theorem Gi{S T E n b e G q M N:Nat}(C:II hp (arg x)=some (FC N l))(L:Tab P S (.slice E) n b z)(X:Tab P E (.int .u8) q M ui)(g:Tab P T .string e G v):Quiet P hp ⟨dd,.convert S T x,ty,ps,af,gd⟩ arg (.d (Yy l)):=by
 refine⟨λbase s F j K w a h=>?_⟩;have u:=Ev a (h x Zcp) C;obtain⟨A,c,d,B,I,V⟩:=u;rw[CB]at d B;refine BL (v:=.string (byS l)) ?_ ⟨GS.Le.refl s,rfl⟩
 have key:(convert S T (j x)).run P s.w=.ok (.string (byS l)) s.w:=by
  rw[d,run_convert_bytes_string s.w S T E A l.length c L.und X.und g.und];exact A3b s.w l A c V rfl
 simp only[execOp,Sem.run_bind,key,Result.andThen_ok,Sem.run_pure]
theorem A1F{b c:List Nat}(C:arg x=.d (Yy b))(N:arg y=.d (Yy c))(E:∀z∈b,z<256)(G:∀z∈c,z<256):Quiet P hp ⟨dd,.binOp .eql t x y U,ty,ps,af,gd⟩ arg (.d (ex (.bool (decide (b=c))))):=
 Cu rfl C N λw=>by
  have:=XY E G;simp only[eqGuard,binOp,Op.stringOp,this];rfl
theorem UM{T U:TypeId}{b c:List Nat}(C:arg x=.d (Yy b))(N:arg y=.d (Yy c))(E:∀z∈b,z<256)(G:∀z∈c,z<256):Quiet P hp ⟨dd,.binOp .neq T x y U,ty,ps,af,gd⟩ arg (.d (ex (.bool (!decide (b=c))))):=
 Cu rfl C N λw=>by
  have:=XY E G;simp only[eqGuard,binOp,Op.stringOp,this];rfl
end
def FE(c:Nat->List D):List D:=c 0++(c 1++(c 2++(c 3++(c 4++(c 5++(c 6++c 7))))))
theorem DG{c:Nat->List D}(h:∀i,(c i).length=n):(FE c).length=8*n:=by
 simp only[FE,List.length_append,h];omega
theorem Sj(h:∀b,(uM b).length=n)(K:b<8)(z:T<n):(FE uM)[b*n+T]? = (uM b)[T]?:=by
 unfold FE
 match b,K with
 |0,_=>rw[List.getElem?_append_left ZbX];exact ZfJ
 |1,_=>rw[List.getElem?_append_right ZbX,h,List.getElem?_append_left ZbX];exact ZfJ
 |2,_=>rw[List.getElem?_append_right ZbX,h,List.getElem?_append_right ZbX,h,List.getElem?_append_left ZbX];exact ZfJ
 |3,_=>rw[List.getElem?_append_right ZbX,h,List.getElem?_append_right ZbX,h,List.getElem?_append_right ZbX,h,List.getElem?_append_left ZbX];exact ZfJ
 |4,_=>rw[List.getElem?_append_right ZbX,h,List.getElem?_append_right ZbX,h,List.getElem?_append_right ZbX,h,List.getElem?_append_right ZbX,h,List.getElem?_append_left ZbX];exact ZfJ
 |5,_=>rw[List.getElem?_append_right ZbX,h,List.getElem?_append_right ZbX,h,List.getElem?_append_right ZbX,h,List.getElem?_append_right ZbX,h,List.getElem?_append_right ZbX,h,List.getElem?_append_left ZbX];exact ZfJ
 |6,_=>rw[List.getElem?_append_right ZbX,h,List.getElem?_append_right ZbX,h,List.getElem?_append_right ZbX,h,List.getElem?_append_right ZbX,h,List.getElem?_append_right ZbX,h,List.getElem?_append_right ZbX,h,List.getElem?_append_left ZbX];exact ZfJ
 |7,_=>rw[List.getElem?_append_right ZbX,h,List.getElem?_append_right ZbX,h,List.getElem?_append_right ZbX,h,List.getElem?_append_right ZbX,h,List.getElem?_append_right ZbX,h,List.getElem?_append_right ZbX,h,List.getElem?_append_right ZbX,h];exact ZfJ
theorem Hj{c:Nat->List D}(h:∀b,(c b).length=n)(K:b<8):PartAt (FE c) (b*n) n (c b):=by
 have s:b*n+n<=8*n:=ZgH
 refine⟨by rw[DG h];omega,?_⟩;apply List.ext_getElem?;intro q;rw[List.getElem?_take];split
 .rename_i z
  rw[List.getElem?_drop];exact Sj h K z
 .rename_i z
  rw[List.getElem?_eq_none ZbX]
theorem Zw(h:∀b,(uM b).length=n)(o:c.length=n)(K:b<8):SetAt (FE uM) (b*n) c (FE (Xj uM b c)):=by
 have C:∀j,(Xj uM b c j).length=n:=λj=>by unfold Xj;split;exact o;exact h j
 have s:b*n+n<=8*n:=ZgH
 refine⟨by rw[DG h];omega,?_⟩;apply List.ext_getElem?;intro q;by_cases z:q<8*n
 .have B:0<n:=by rcases Nat.eq_zero_or_pos n with e | e; subst e; omega; exact e
  have d:q=q/n*n+q%n:=by have:=Nat.div_add_mod q n;rw[Nat.mul_comm]at this;omega
  have Q:q/n<8:=by rw[Nat.div_lt_iff_lt_mul B];exact z
  have Y:q%n<n:=Nat.mod_lt _ B
  have v:(FE (Xj uM b c))[q]? = (Xj uM b c (q/n))[q%n]?:=by
   have:=Sj C Q Y;rwa [<-d]at this
  have U:(FE uM)[q]? = (uM (q/n))[q%n]?:=by
   have:=Sj h Q Y;rwa [<-d]at this
  rw[v];unfold QI;have M:((FE uM).take (b*n)).length=b*n:=by rw[List.length_take,DG h];omega
  by_cases u:q<b*n
  .have:q/n≠b:=λe=>by rw [e] at d;omega
   rw[List.getElem?_append_left Zbx,List.getElem?_take,if_pos u,U,Xj,if_neg this]
  .rw [List.getElem?_append_right Zbx, M]
   by_cases A:q<b*n+n
   .have F:q/n=b:=by
     apply Nat.div_eq_of_lt_le
     .omega
     .rw [Nat.succ_mul];omega
    have Z:q-b*n=q%n:=by rw[F]at d;omega
    rw[List.getElem?_append_left Zbx,Xj,if_pos F,Z]
   .have:q/n≠b:=λe=>by rw [e] at d;omega
    rw[List.getElem?_append_right Zbx,List.getElem?_drop,o,Xj,if_neg this,<-U];exact ZfJ
 .rw [List.getElem?_eq_none (by rw[Iu (by rw[DG h];omega),DG h];omega),List.getElem?_eq_none (by rw[DG C];omega)]
def HK(q:RQ):List D:=A2u q.b q.l q.b' q.l'
def HU(L:List (List RTm)):D:=slD 28 1 (L.map λp=>[IU p])
def Vd(L:List (List (List RTm))):D:=slD 24 1 (L.map λp=>[HU p])
def Kf(L:List RQ):D:=slD 111 4 (L.map HK)
def KT(a:RQ×RQ):List D:=HK a.1++HK a.2
def Zd(L:List (RQ×RQ)):D:=slD 129 8 (L.map KT)
def DB(f:Nat->RQ×RQ):List D:=FE λi=>KT (f i)
def Gf(L:List (Nat->RQ×RQ)):D:=slD 131 64 (L.map DB)
def Oz(f:Nat->RQ):List D:=FE λi=>HK (f i)
def A2v(L:List (Nat->RQ)):D:=slD 187 32 (L.map Oz)
def Kw(s:RQ×List RTm):List D:=HK s.1++[IU s.2]
def YB(L:List (RQ×List RTm)):D:=slD 184 5 (L.map Kw)
def Kh(L:List Int):D:=slD 3 1 (L.map λz=>[ex (.int .i64 z)])
def FI(k:Cor):List D:=[ex (.int .i64 k.n),HU k.e,HU k.f]
def Ef(c:Clm):List D:=[ex (.int .i64 c.kind),IU c.p,ex (.int .i64 c.n),ex (.int .i64 c.d),ex (.int .i64 c.r),EZ c.o,HU c.l,Kh c.s,Gf c.b]
def up8(f:Nat->List RQ):List D:=oct λi=>Kf (f i)
def RV(r:Rsl):List D:=Cr r.l++(Kf r.q::up8 r.r)
def Ea(e:Crt):List D:=[ex (.int .i64 e.n),HU e.cof,HU e.g,EZ e.o,Vd e.c,Vd e.q,Vd e.s]++(RV e.r++[Zd e.a,YB e.sq,A2v e.x,Gf e.b])
def EN(f:Fct):List D:=FI f.k++(Ef f.c++Ea f.e)
def RelL(s:GS)(R:List D)(F:List Value):Prop:=F.length=R.length/\∀k,k<R.length->(Df R k).rel s (F.getD k undef)
theorem RelL.app{x y:List Value}(h:RelL s c x)(k:RelL s vk y):RelL s (c++vk) (x++y):=by
 refine⟨by rw[List.length_append,List.length_append,h.1,k.1],λi K=>?_⟩;rw[List.length_append]at K;unfold Df;rw[List.getD_eq_getElem?_getD,List.getD_eq_getElem?_getD];rcases Nat.lt_or_ge i c.length with u | u
 .rw [List.getElem?_append_left u, List.getElem?_append_left (by rw [h.1]; exact u), <-List.getD_eq_getElem?_getD, <-List.getD_eq_getElem?_getD]
  exact h.2 i u
 .rw [List.getElem?_append_right u, List.getElem?_append_right (by rw [h.1]; exact u), <-List.getD_eq_getElem?_getD, <-List.getD_eq_getElem?_getD, h.1]
  exact k.2 _ Zbx
def fvD(f:FuncId)(R Z:List D):D:=⟨λs v=>∃c l:List Value,v=.func (.func f) c.toArray l.toArray/\RelL s R c/\RelL s Z l,
 λ⟨c,l,u,A,I⟩ G=>⟨c,l,u,⟨A.1,λk B=>(Df R k).st (A.2 k B) G⟩,⟨I.1,λk B=>(Df Z k).st (I.2 k B) G⟩⟩⟩
def FnAbs(P:Program)(F:D)(t:List D)(r:D):Prop:=∃H R Z,D.le F (fvD H R Z)/\Abs P H (R++t++Z) r
theorem FnAbs.ex(h:Abs P vb c r):FnAbs P (ex (.func (.func vb) #[] #[])) c r:=⟨vb,[],[],λs v o=>⟨[],[],o,⟨rfl,λk B=>absurd B ZbK⟩,⟨rfl,λk B=>absurd B ZbK⟩⟩,by simpa using h⟩
theorem A1Y(h:Abs P vb (c++uU++vk) r):FnAbs P (fvD vb c vk) uU r:=⟨vb,c,vk,D.le.refl _,h⟩
section
variable {P:Program} {hp:List Ow} {arg:Operand->AV} {dd:Option Tmp} {ty:TypeId} {ps:String} {af:Array Edge} {gd:Option (Nat×Bool)}
theorem JD{F:D}(p:arg x=.d F)(G:FnAbs P F c vu)(t:ArgsLe hp arg vJ c):Quiet P hp ⟨dd,.call { callee:=.value x,args:=vJ.toArray,argTypes:=vs },ty,ps,af,gd⟩ arg (.d vu):=by
 obtain⟨H,R,Z,g,W⟩:=G;refine⟨λbase s S j T w N h=>?_⟩;have A:=h x Zcv;rw[p]at A;obtain⟨Q,X,d,B,I⟩:=g s _ A;obtain⟨V,m⟩:=ArgsLe.rel (ev:=j) N t λu C=>h u (by simp[Op.operands,Call.operands,C]);have y:RelL s c (vJ.map j):=⟨by simpa using V,m⟩;have K:=(B.app y).app I;have M:=W.2 s (Q++vJ.map j++X) T K.1 K.2;unfold RegG.OpStep
 have q:(execOp j ⟨dd,.call { callee:=.value x,args:=vJ.toArray,argTypes:=vs },ty,ps,af,gd⟩).run P s.w=.ok (.enter H (Q++vJ.map j++X).toArray) s.w:=by
  simp[execOp,resolve,d,Deferred.ofValue,invoke,W.1]
 rw[q];exact M.mono λe O ⟨v,a,E,b,L,Y⟩=>⟨v,a,E,b,L,Y⟩
theorem A4X{B Z:List Operand}(u:ArgsLe hp arg B c)(A:ArgsLe hp arg Z vk):Quiet P hp ⟨dd,.makeFunc (.func vb) B.toArray Z.toArray,ty,ps,af,gd⟩ arg (.d (fvD vb c vk)):=by
 refine⟨λbase s S j T w a h=>?_⟩;obtain⟨I,V⟩:=ArgsLe.rel (ev:=j) a u λx C=>h x (by simp[Op.operands,C]);obtain⟨m,y⟩:=ArgsLe.rel (ev:=j) a A λx C=>h x (by simp[Op.operands,C]);refine BL (v:=.func (.func vb) (B.map j).toArray (Z.map j).toArray) (by simp[execOp,Instr.makeFunc]) ⟨GS.Le.refl s,_,_,rfl,⟨by simpa using I,V⟩,⟨by simpa using m,y⟩⟩
theorem A4V{e n b N T len:Nat}{d:TypeDesc}(C:arg x=.d (Et T c))(M:Tab P t (.array len e) n b z)(a:Tab P e d 1 N v)(L:MK len c=some vk)(G:len<=1000):Quiet P hp ⟨dd,.slice t x none none none,ty,ps,af,gd⟩ arg (.d (slD T 1 (vk.map λy=>[y]))):=by
 obtain⟨f,K⟩:=KW L;have o:vk.length=len:=by rw[f,List.length_take];omega
 subst o;refine⟨λbase s S F O w R h=>?_⟩;have u:=h x Zcp;rw[C]at u;obtain⟨g,p,E,I⟩:=u;replace I:=I.take vk.length;rw[<-f]at I;obtain⟨Z,Q,A,I⟩:=I;have E:F x=.pointer (some ⟨g,p,none⟩):=E;refine BL (v:=.slice (some ⟨g,p,none⟩) vk.length vk.length) ?_ ⟨GS.Le.refl s,?_⟩
 .simp [execOp,Instr.sliceAt,E,run_underlying M.und,Instr.sureAddr,Instr.sliceBounds,a.run_size,Addr.add_lit]
 .refine ⟨some ⟨g, p, none⟩, vk.length, by rw [List.length_map], by rw [List.length_map]; exact Nat.le_refl _, by omega, λ_=>⟨g, p, rfl, λk B=>?_⟩⟩
  rw[List.length_map]at B;have K:(vk.map λy=>[y]).getD k []=[Df vk k]:=by simp[Df,B]
  rw[K];refine⟨rfl,Z,Q,A,λj i=>?_⟩;have i:j<1:=i;obtain rfl:j=0:=by omega
  have:=I k B;rw[Nat.mul_one,Nat.add_zero];exact this
end
section
variable {fr:List (Nat×AV)} {hp hp':List Ow}
theorem A3A(id A:Nat)(i:hp[id]? = some (.var t (c.map .d)))(C:BR fr A=some (.ptr id 0))(F:Fu hp id .dead=some hp'):AS.le ⟨fr,hp⟩ ⟨(A,.d (Et t c))::fr,hp'⟩:=by
 rw[Er F];intro M n a w ⟨s,S,V,L⟩;obtain⟨g,Z,X,r,P,R,O,p,y⟩:=L.hp id _ i;let Y:GS:=⟨λb k=>s.S b k\/b=g,s.tag,s.w⟩;have l:GS.Chg s Y:=⟨Nat.le_refl _,λ_ _ B=>.inl B,λb Z t W E=>⟨Z,W,E,λ_ _=>rfl⟩⟩;have Q:g<s.w.heap.size:=Bj P;have z:Y.Ok:=⟨λb k B=>B.elim (L.ok.lt b k) λh=>h▸Q,λb k U=>.inl (L.ok.safe b k U)⟩;have q:OwB s (S id) (.var t (c.map .d)) g:=by show Dc (S id)=some g;rw[X];rfl
 have J:GS.LeX M.mine M.g Y:=⟨L.le.os,L.le.tape,L.le.output,L.le.block,L.le.chg.trans l,λb k E I B=>B.elim (L.le.old b k E I) λB=>((L.own id _ b i (B▸q)).elim I λh=>absurd E Zbx).elim,L.le.tag,λ_=>z⟩
 have o:=L.upd (s':=Y) (o':=.dead) (ρ':=S) (f:=λx=>x) J z l i
  (λb _ T=>⟨rfl,λk=>⟨λB=>B.elim (λh=>h) λh=>absurd (h▸q) T,λB=>.inl B⟩⟩) (λ_ _=>rfl) trivial (λb E=>E.elim) λH v h=>h.chg l
 rw[OM,JN]at o;have o:StI M n ⟨fr,hp.set id .dead⟩ a Y S:=o;refine⟨Y,S,V,⟨o.le,o.ok,λu H N=>?_,o.sz,o.df,o.hp,o.sep,o.own⟩⟩;rw[Cx]at N;split at N
 .rename_i e
  cases N;subst e;obtain⟨_,b,d,K⟩:=L.fr A _ C;rw[X]at d;cases d;refine⟨g,0,K,Z,(0,0),P,λk B=>?_⟩;have G:=y k (.d (Df c k)) (by simp[Df,B]);obtain⟨u,j,f,m⟩:=G;rw[Nat.zero_add];exact⟨.inr rfl,u,j,f,(Df c k).st m l⟩
 .exact o.fr u H N
end
theorem Cb{s0:An}{Q:Exit->AS->Prop}{S:List (Nat×AV)}{ds:List D}(id u:Nat)(i:H[id]? = some (.var t (ds.map .d)))(C:BR S u=some (.ptr id 0))(b:Fu H id .dead=some vw)(k:AWp P s0 n vn Q ⟨(u,.d (Et t ds))::S,vw⟩):AWp P s0 n vn Q ⟨S,H⟩:=Hm (A3A id u i C b) k
abbrev wH(b:List Nat):List Ow:=[.var 103 [.own 1],.row 5 1 (Cy b)]
def Wr(f:FuncId)(x:D)(e:List Nat):Prop:=∀b,b.length+e.length<=1000000000000->Con Tryz.prog f [.ptr 0 0,.d x] (wH b) [1] (λr u=>r=.d Cw/\u=wH (b++e))
theorem Wr.intro{f:FuncId}{x:D}{e:List Nat}(h:∀b,b.length+e.length<=1000000000000->Con Tryz.prog f [.ptr 0 0,.d x] (wH b) [1] (λr B=>r=.d Cw/\B.take 2=wH (b++e))):Wr f x e:=λb E=>(h b E).cut λr B ⟨u,A⟩=>ZaO
theorem Bm{R:Func}{Q:AV->List Ow->Prop}{T N:Ow}(p:P.funcs[vb]? = some R)(E:R.body=some vn)(b:∀o w,(callFunc vb o).run P w=.ok (.enter vb o) w)(u:Nat.ble o.length R.ntmps=true)
  (h:∀(B:An) (v Z:Value),AWp P B R.ntmps vn (FinC P R [1] [v,Z] Q) ⟨Hy 0 o,[T,N,.pin [(v,.own 0)]]⟩):Con P vb o [T,N] [1] Q:=
 PY p E b u λB F A=>by
  match F,A with
  |[v,Z],_=>exact h B v Z
theorem BI{n:Option Tmp}{l:String}{Z:Array Edge}{u:Option (Nat×Bool)}{id off:Nat}(C:vv x=.ptr id off):Quiet P H ⟨n,.nilCheck x,t,l,Z,u⟩ vv (.ptr id off):=by
 refine⟨λbase s S j T w a o=>?_⟩;have V:=o x Zcp;rw[C]at V;obtain⟨m,b,y,e⟩:=V;refine BL (v:=j x) ?_ ⟨GS.Le.refl s,m,b,y,e⟩;simp[execOp,e]
theorem CJ(n:Nat)(u:n<18446744073709551616):Wr 120 (ex (.int .u64 (n:Nat))) (Bl n):=Wr.intro λb E=>by
 refine Bm Tryz.func120 rfl (Ag Tryz.func120 Zbz Zbz) rfl λA m U=>?_;rw[Tryz.ntmps120];refine Go ?_;refine AE (λB f=>∃x e,B=e/\e<18446744073709551616/\x++Bl e=b++Bl n/\f=⟨[(0,.ptr 0 0),(1,.d (ex (.int .u64 (e:Nat))))],[.var 103 [.own 1],.row 5 1 (Cy x),.pin [(m,.own 0)]]⟩) ?le ⟨b,n,rfl,u,rfl,rfl⟩ ?round
 case le=>exact Ac (by exact Yp<|Yd<|FrLe.nil) (by exact HpLe.cons (Ad rfl)<|Yr<|HpLe.cons (Ai rfl)<|HpLe.nil)
 case round=>
  rintro e _ ⟨x,_,rfl,X,a,rfl⟩;have o:(x++Bl e).length=(b++Bl n).length:=by rw[a]
  rw[List.length_append,List.length_append]at o;have C:=GT e;by_cases h:128<=e
  .have d:Bl e=(e%128+128)::Bl (e/128):=by rw [Bl, if_neg Zbx]
   have v:Bl e=[e%128+128]++Bl (e/128):=d;rw[d,List.length_cons]at o;have L:=CB x;have O:=GT (e/128);refine Go ?_;refine Wq (BI (ao rfl)) ?_;refine Go ?_;refine Wq (DA (r:=((e%128+128:Nat):Int)) (ao rfl) (ao rfl) (by rw[IntKind.wrap_u8,IntKind.wrap_u8];omega)) ?_;(refine CA rfl rfl ?_;(refine De (Aa rfl) (Aa rfl) rfl rfl rfl rfl rfl ?_;(repeat ((first | refine⟨_,As (ao rfl),?_⟩ | refine⟨_,Po rfl,?_⟩);refine⟨_,rfl,?_⟩));refine⟨_,rfl,?_⟩));(refine LP (r2:=[[ex (.int .u8 ((e%128+128:Nat):Int))]]) (ao rfl) rfl rfl (Aa rfl) (Aa rfl) rfl rfl ZcQ ZcQ rfl Zcd rfl ?_);refine Wq (BI (ao rfl)) ?_;refine Wq AH ?_;refine Fr (ao rfl) (ao rfl) rfl (Aa rfl) ZcZ rfl rfl ?_;refine Go ?_;refine Wq (HF (r:=((e/128:Nat):Int)) (ao rfl) (ao rfl) ZbA ZcE) ?_;refine Go ?_;refine Am (e/128) Zbx ⟨x++[e%128+128],e/128,rfl,by omega,by rw[List.append_assoc,<-v];exact a,rfl⟩ ?_;exact Ac (by exact Yp<|Yd<|FrLe.nil) (by refine HpLe.cons (Ad rfl) ?_;(refine HpLe.cons (OwLe.row (by rw[He];rfl)) ?_);exact HpLe.cons (Ai rfl)<|HpLe.nil)
  .have d:Bl e=[e]:=by rw [Bl, if_pos Zbx]
   rw[d,List.length_cons]at o;rw[d]at a;have L:=CB x;refine Aj<|Y1<|Wm ?_;refine Wq AR ?_;refine Y0<|Cf<|Cl<|BF<|Ca<|BJ<|Yn<|AWp.region<|Wm<|Wm ?_;refine Wq (BI (ao rfl)) ?_;refine Wq AH ?_;refine Wq BN ?_;refine Wm ?_;refine Wq (AD (r:=((e:Nat):Int)) (ao rfl) (Aa rfl) (Aa rfl) Zce) ?_;(refine CA rfl rfl ?_;(refine De (Aa rfl) (Aa rfl) rfl rfl rfl rfl rfl ?_;(repeat ((first | refine⟨_,As (ao rfl),?_⟩ | refine⟨_,Po rfl,?_⟩);refine⟨_,rfl,?_⟩));refine⟨_,rfl,?_⟩));(refine LP (r2:=[[ex (.int .u8 ((e:Nat):Int))]]) (ao rfl) rfl rfl (Aa rfl) (Aa rfl) rfl rfl ZcQ ZcQ rfl Zcd rfl ?_);refine Wq (BI (ao rfl)) ?_;refine Wq AH ?_;refine Fr (ao rfl) (ao rfl) rfl (Aa rfl) ZcZ rfl rfl ?_;apply AWl.nil
   first | refine Be RetsA.none rfl ?_ rfl | refine AG RetsA.none rfl ?_ rfl
   exact⟨rfl,by rw[<-a,wH,He];rfl⟩
def IW(z:Int):Prop:=-9223372036854775808<=z/\z<=9223372036854775807
structure TW(t:RTm):Prop where
 n:SmW t.l
 d:SmW t.l'
abbrev Ew{E:Type}(D:E->Prop)(l:List E):Prop:=∀x∈l,D x
abbrev PoW:List RTm->Prop:=Ew TW
abbrev PsW:List (List RTm)->Prop:=Ew PoW
abbrev TaW:List (List (List RTm))->Prop:=Ew PsW
def Gu{E:Type}(D:E->Prop)(f:Nat->E):Prop:=∀i,i<8->D (f i)
theorem BX[Inhabited j]{l:List j}{k:Nat}(h:k<l.length):l.getD k default∈l:=by
 exact ZeS
theorem BM[Inhabited j](e:j->List Nat){l:List j}{k:Nat}(h:k<l.length):(l.take (k+1)).flatMap e=(l.take k).flatMap e++e (l.getD k default):=by
 rw[List.take_add_one,List.getElem?_eq_getElem h,List.flatMap_append,List.getD_eq_getElem?_getD,List.getElem?_eq_getElem h];simp
theorem CG[Inhabited j](e:j->List Nat){l:List j}{k:Nat}(h:k<l.length):((l.take k).flatMap e).length+(e (l.getD k default)).length<=(l.flatMap e).length:=by
 have u:l.flatMap e=(l.take (k+1)).flatMap e++(l.drop (k+1)).flatMap e:=by rw[<-List.flatMap_append,List.take_append_drop]
 rw[u,BM e h,List.length_append,List.length_append];omega
def CU{E:Type}(e:E->List Nat)(f:Nat->E)(k:Nat):List Nat:=(List.range k).flatMap λi=>e (f i)
theorem DC(e:j->List Nat)(f:Nat->j)(k:Nat):CU e f (k+1)=CU e f k++e (f k):=by simp[CU,List.range_succ]
theorem ES{E:Type}(e:E->List Nat)(f:Nat->E){k:Nat}:∀{n:Nat},k<n->(CU e f k).length+(e (f k)).length<=(CU e f n).length
 |n+1,h=>by
  rw[DC,List.length_append];by_cases B:k=n
  .subst B
   exact Nat.le_refl _
  .have:=ES e f (n:=n) (show k<n by omega)
   omega
theorem Lq(h:f=l++vm):Cy l++Cy vm=Cy f:=by rw[h,He]
theorem DY{w n m:Nat}(h:2^n=m):((w:Int)).fdiv (2^n)=((w/m:Nat):Int):=by
 subst h;rw[Int.fdiv_eq_ediv_of_nonneg _ (by have:(0:Int)<2^n:=Int.pow_pos Zbx;omega)]
 norm_cast
theorem EF(z:Int)(B:IW z):Wr 54 (ex (.int .i64 z)) (Bc z):=Wr.intro λb E=>by
 obtain⟨u,A⟩:=B;by_cases h:0<=z
 .have e:Bc z=Bl (2*z.toNat):=by rw [Bc, TN, if_neg Zbx]
  rw[e]at E ⊢;have G:=CJ (2*z.toNat) Zbx b E;refine Bm Tryz.func54 rfl (Ag Tryz.func54 Zbz Zbz) rfl λC m U=>?_;rw[Tryz.ntmps54];refine Y1<|Wm ?_;refine Wq AZ ?_;refine Y0<|Ct<|AWp.region<|Wm<|Wm ?_;refine Wq (AD (r:=((z.toNat:Nat):Int)) (ao rfl) (Aa rfl) (Aa rfl) ZcC) ?_;refine Wq (IL (r:=((2*z.toNat:Nat):Int)) (ao rfl) (ao rfl) ZcC) ?_
  exact ZaP
 .have e:Bc z=Bl (2*(-(z+1)).toNat+1):=by rw [Bc, TN, if_pos Zbx]
  rw[e]at E ⊢;have G:=CJ (2*(-(z+1)).toNat+1) Zbx b E;refine Bm Tryz.func54 rfl (Ag Tryz.func54 Zbz Zbz) rfl λC m U=>?_;rw[Tryz.ntmps54];refine Y1<|Wm ?_;refine Wq AR ?_;refine Y0<|Cf<|AWp.region<|Wm<|Wm ?_;refine Wq Wu ?_;refine Wq Wp ?_;refine Wq (AD (r:=(((-(z+1)).toNat:Nat):Int)) (ao rfl) (Aa rfl) (Aa rfl) ZcC) ?_;refine Wq (IL (r:=((2*(-(z+1)).toNat:Nat):Int)) (ao rfl) (ao rfl) ZcC) ?_;refine Wq (DA (r:=((2*(-(z+1)).toNat+1:Nat):Int)) (ao rfl) (ao rfl) ZcC) ?_
  exact ZaP
theorem OW(s:Bool)(l:List Nat)(L:SmW l):Wr 281 (AL [ex (.bool s),wD l]) (Gq s l):=Wr.intro λb E=>by
 have V:∀k,k<l.length->l.getD k 0<4294967296:=λk B=>L.1 _ (BX B);have o:=L.2;have X:(Gq s l).length=(Bl (2*l.length+(if s=true then 1 else 0))).length+(l.flatMap Cj).length:=by rw[Gq,List.length_append]
 have u:2*l.length+(if s=true then 1 else 0)<18446744073709551616:=by split<;>omega
 obtain⟨N,Y⟩:∃N,N=2*l.length+(if s=true then 1 else 0):=⟨_,rfl⟩;have Z:Gq s l=Bl N++l.flatMap Cj:=by rw[Y];rfl
 rw[<-Y]at u X;have G:=CJ N u b Zbx;refine Bm Tryz.func281 rfl (Ag Tryz.func281 Zbz Zbz) rfl λA m U=>?_;rw[Tryz.ntmps281];apply Y1;refine Bx ?_;refine Y0<|Y1 ?_;refine Wq AH ?_;refine Wq AM ?_;refine Wq NK ?_;refine Wq (AD (r:=((l.length:Nat):Int)) (ao rfl) (Aa rfl) (Aa rfl) (DU Zbx)) ?_;refine Wq (IL (r:=((2*l.length:Nat):Int)) (ao rfl) (ao rfl) ZcC) ?_;refine Wa<|Y0<|Aj<|Y1 ?_;refine Wq AH ?_;refine Wq AM ?_;apply Y0
 cases s
 .have I:N=2*l.length:=by rw [Y];simp
  refine Go ?_;refine AF [0,1] [] [] ((by rw[I]at G;exact G)) (by first | exact Or.inl rfl | exact Or.inr ⟨by decide,rfl,by repeat (first | exact AvoidR.nil | refine Ah rfl ?_ | refine AvoidR.dead ?_ | refine AvoidR.row ?_ | refine AvoidR.obj ?_ | refine AvoidR.varD ?_ | refine AvoidR.varA rfl ?_ | refine AvoidR.pin rfl ?_)⟩) rfl rfl (by first | exact .inl ⟨rfl,rfl,rfl⟩ | exact .inr (.inr ⟨rfl,rfl,rfl⟩)) (by repeat (first | exact ArgsC.nil | refine ArgsC.d rfl (D.le.refl _) ?_ | refine ArgsC.av rfl rfl ?_)) (by decide) (by repeat (first | exact SelR.nil | refine SelR.var rfl ?_ | refine SelR.obj rfl ?_ | refine SelR.row rfl ?_ | refine SelR.varA rfl rfl rfl ?_)) (by repeat (first | exact trivial | refine⟨⟨_,_,rfl⟩,?_⟩)) trivial rfl ?_;rintro _ _ ⟨rfl,rfl⟩;refine Kr ?_;refine Go ?_;refine AE (λC f=>∃k,k<=l.length/\C=l.length-k/\f=⟨[(0,.ptr 0 0),(20,.d (wD l)),(21,.d (ex (.int .i64 (l.length:Nat)))),(22,.d (ex (.int .i64 (k:Nat))))],[.var 103 [.own 1],.row 5 1 (Cy (b++Bl N++(l.take k).flatMap Cj)),.pin [(m,.own 0)]]⟩) ?le ⟨0,by omega,rfl,rfl⟩ ?round
  case le=>exact Ac ZdC ZcU
  case round=>
   exact ZaQ
 .have I:N=2*l.length+1:=by rw [Y];simp
  refine Go ?_;refine Wq (DA (r:=((2*l.length+1:Nat):Int)) (ao rfl) (ao rfl) (by rw[DU (by omega)];omega)) ?_;refine Go ?_;refine AF [0,1] [] [] ((by rw[I]at G;exact G)) (by first | exact Or.inl rfl | exact Or.inr ⟨by decide,rfl,by repeat (first | exact AvoidR.nil | refine Ah rfl ?_ | refine AvoidR.dead ?_ | refine AvoidR.row ?_ | refine AvoidR.obj ?_ | refine AvoidR.varD ?_ | refine AvoidR.varA rfl ?_ | refine AvoidR.pin rfl ?_)⟩) rfl rfl (by first | exact .inl ⟨rfl,rfl,rfl⟩ | exact .inr (.inr ⟨rfl,rfl,rfl⟩)) (by repeat (first | exact ArgsC.nil | refine ArgsC.d rfl (D.le.refl _) ?_ | refine ArgsC.av rfl rfl ?_)) (by decide) (by repeat (first | exact SelR.nil | refine SelR.var rfl ?_ | refine SelR.obj rfl ?_ | refine SelR.row rfl ?_ | refine SelR.varA rfl rfl rfl ?_)) (by repeat (first | exact trivial | refine⟨⟨_,_,rfl⟩,?_⟩)) trivial rfl ?_;rintro _ _ ⟨rfl,rfl⟩;refine Kr ?_;refine Go ?_;refine AE (λC f=>∃k,k<=l.length/\C=l.length-k/\f=⟨[(0,.ptr 0 0),(20,.d (wD l)),(21,.d (ex (.int .i64 (l.length:Nat)))),(22,.d (ex (.int .i64 (k:Nat))))],[.var 103 [.own 1],.row 5 1 (Cy (b++Bl N++(l.take k).flatMap Cj)),.pin [(m,.own 0)]]⟩) ?le ⟨0,by omega,rfl,rfl⟩ ?round
  case le=>exact Ac ZdC ZcU
  case round=>
   exact ZaQ
def Wl(f Y:FuncId)(x:D)(e:List Nat):Prop:=∀b,b.length+e.length<=1000000000000->Con Tryz.prog f [.ptr 0 0,.d x,.fn (Y+1000000) [0]] (wH b) [1] (λr u=>r=.d Cw/\u=wH (b++e))
theorem Wl.intro{f Y:FuncId}{x:D}{e:List Nat}(h:∀b,b.length+e.length<=1000000000000->Con Tryz.prog f [.ptr 0 0,.d x,.fn (Y+1000000) [0]] (wH b) [1] (λr B=>r=.d Cw/\B.take 2=wH (b++e))):Wl f Y x e:=λb E=>(h b E).cut λr B ⟨u,A⟩=>ZaO
def VW(a:RQ×RQ):Prop:=QB a.1/\QB a.2
def SqW(s:RQ×List RTm):Prop:=QB s.1/\PoW s.2
structure CoW(k:Cor):Prop where
 n:IW k.n
 e:PsW k.e
 f:PsW k.f
structure ClW(c:Clm):Prop where
 kind:IW c.kind
 p:PoW c.p
 n:IW c.n
 d:IW c.d
 r:IW c.r
 o:Ew (Gu IW) c.o
 l:PsW c.l
 s:Ew IW c.s
 b:Ew (Gu VW) c.b
structure RsW(r:Rsl):Prop where
 l:Gu IW r.l
 q:Ew QB r.q
 r:Gu (Ew QB) r.r
structure CrW(e:Crt):Prop where
 n:IW e.n
 cof:PsW e.cof
 g:PsW e.g
 o:Ew (Gu IW) e.o
 c:TaW e.c
 q:TaW e.q
 s:TaW e.s
 r:RsW e.r
 a:Ew VW e.a
 sq:Ew SqW e.sq
 x:Ew (Gu QB) e.x
 b:Ew (Gu VW) e.b
structure FW(f:Fct):Prop where
 k:CoW f.k
 c:ClW f.c
 e:CrW f.e
theorem Tl(z:Int):IntKind.u64.wrap z=((u64 z:Nat):Int):=by
 rw[IntKind.wrap_u64];unfold u64;omega
theorem Fc(q:RQ)(z:QB q):Wr 220 (AL (HK q)) (Cv q):=Wr.intro λb E=>by
 simp only[Cv,List.length_append]at E;have g:=OW q.b q.l z.n (b) ZbC;have u:=OW q.b' q.l' z.d (b++Gq q.b q.l) ZbC;refine Bm Tryz.func220 rfl (Ag Tryz.func220 Zbz Zbz) rfl λA m U=>?_;rw[Tryz.ntmps220];refine ZeG ?_;rintro _ _ ⟨rfl,rfl⟩;refine Kr ?_;refine ZeK ?_;rintro _ _ ⟨rfl,rfl⟩;refine Zgb ?_
 first | refine Be RetsA.none rfl ?_ rfl | refine AG RetsA.none rfl ?_ rfl
 exact ZhL
theorem MW(a:RQ×RQ)(t:VW a):Wr 209 (AL (KT a)) (FH a):=Wr.intro λb E=>by
 simp only[FH,List.length_append]at E;have g:=Fc a.1 t.1 (b) ZbC;have u:=Fc a.2 t.2 (b++Cv a.1) ZbC;refine Bm Tryz.func209 rfl (Ag Tryz.func209 Zbz Zbz) rfl λA m U=>?_;rw[Tryz.ntmps209];refine ZeG ?_;rintro _ _ ⟨rfl,rfl⟩;refine Kr ?_;refine ZeK ?_;rintro _ _ ⟨rfl,rfl⟩;refine Zgb ?_
 first | refine Be RetsA.none rfl ?_ rfl | refine AG RetsA.none rfl ?_ rfl
 exact⟨rfl,by simp only[FH,List.append_assoc];rfl⟩
theorem OH(a:Nat->Int)(t:Gu IW a):Wr 124 (AL (Cr a)) (Fv a):=Wr.intro λb E=>by
 have X:Fv a=CU (Bc) a 8:=rfl;rw[X]at E ⊢;refine Bm Tryz.func124 rfl (Ag Tryz.func124 Zbz Zbz) rfl λA m U=>?_;rw[Tryz.ntmps124];refine Go ?_;refine AE (λu f=>∃k,k<=8/\u=8-k/\f=⟨[(0,.ptr 0 0),(6,.d (AL (Cr a))),(7,.d (ex (.int .i64 (k:Nat))))],[.var 103 [.own 1],.row 5 1 (Cy (b++CU (Bc) a k)),.pin [(m,.own 0)]]⟩) ?le ⟨0,by omega,rfl,rfl⟩ ?round
 case le=>exact Ac Zca ZbZ
 case round=>
  rintro u _ ⟨k,B,rfl,rfl⟩;by_cases Q:k<8
  .have B:=ES (Bc) a Q
   have G:=EF (a k) (t k Q) (b++CU (Bc) a k) ZbC;apply Y1;refine Wq AZ ?_;refine Y0<|Aj<|Ct<|Ys<|Aj<|AWp.block<|Y1 ?_;refine Wq (Kd (ao rfl) (ao rfl) (Aa rfl) (Aa rfl) rfl Q (CellAt.mon Q)) ?_;refine Wa<|Y0<|AWp.region<|Wm<|Wm ?_
   exact Zgt
  .exact ZaR
theorem A4Q(f:Nat->RQ×RQ)(p:Gu VW f):Wr 272 (AL (DB f)) (GD f):=Wr.intro λb E=>by
 have X:GD f=CU (FH) f 8:=rfl;rw[X]at E ⊢;refine Bm Tryz.func272 rfl (Ag Tryz.func272 Zbz Zbz) rfl λA m U=>?_;rw[Tryz.ntmps272];refine Go ?_;refine AE (λC u=>∃k,k<=8/\C=8-k/\u=⟨[(0,.ptr 0 0),(6,.d (AL (DB f))),(7,.d (ex (.int .i64 (k:Nat))))],[.var 103 [.own 1],.row 5 1 (Cy (b++CU (FH) f k)),.pin [(m,.own 0)]]⟩) ?le ⟨0,by omega,rfl,rfl⟩ ?round
 case le=>exact Ac Zca ZbZ
 case round=>
  rintro C _ ⟨k,B,rfl,rfl⟩;by_cases Q:k<8
  .have B:=ES (FH) f Q
   have G:=MW (f k) (p k Q) (b++CU (FH) f k) ZbC;refine Go ?_;refine ZgO ?_;exact Zgs
  .exact ZaR
theorem A0y(f:Nat->RQ)(p:Gu QB f):Wr 213 (AL (Oz f)) (ND f):=Wr.intro λb E=>by
 have X:ND f=CU (Cv) f 8:=rfl;rw[X]at E ⊢;refine Bm Tryz.func213 rfl (Ag Tryz.func213 Zbz Zbz) rfl λA m U=>?_;rw[Tryz.ntmps213];refine Go ?_;refine AE (λC u=>∃k,k<=8/\C=8-k/\u=⟨[(0,.ptr 0 0),(6,.d (AL (Oz f))),(7,.d (ex (.int .i64 (k:Nat))))],[.var 103 [.own 1],.row 5 1 (Cy (b++CU (Cv) f k)),.pin [(m,.own 0)]]⟩) ?le ⟨0,by omega,rfl,rfl⟩ ?round
 case le=>exact Ac Zca ZbZ
 case round=>
  rintro C _ ⟨k,B,rfl,rfl⟩;by_cases Q:k<8
  .have B:=ES (Cv) f Q
   have G:=Fc (f k) (p k Q) (b++CU (Cv) f k) ZbC;refine Go ?_;refine ZgO ?_;exact Zgs
  .exact ZaR
theorem A2f(t:RTm)(M:TW t):Wr 122 (AL (rtC t)) (Eq t):=Wr.intro λb E=>by
 have X:Eq t=Cv ⟨t.b,t.l,t.b',t.l'⟩++CU (λz=>Bl (u64 z)) t.m 8:=rfl;rw[X]at E ⊢;simp only[List.length_append]at E;have g:=Fc ⟨t.b,t.l,t.b',t.l'⟩ ⟨M.n,M.d⟩ b Zbx;refine Bm Tryz.func122 rfl (Ag Tryz.func122 Zbz Zbz) rfl λA m U=>?_;rw[Tryz.ntmps122];refine ZeG ?_;rintro _ _ ⟨rfl,rfl⟩;refine ZeL ?_;refine AE (λu f=>∃k,k<=8/\u=8-k/\f=⟨[(0,.ptr 0 0),(11,.d (AL (Cr t.m))),(12,.d (ex (.int .i64 (k:Nat))))],[.var 103 [.own 1],.row 5 1 (Cy (b++Cv ⟨t.b,t.l,t.b',t.l'⟩++CU (λz=>Bl (u64 z)) t.m k)),.pin [(m,.own 0)]]⟩) ?le ⟨0,by omega,rfl,rfl⟩ ?round
 case le=>exact Ac Zca ZbZ
 case round=>
  rintro u _ ⟨k,B,rfl,rfl⟩;by_cases Q:k<8
  .have B:=ES (λz=>Bl (u64 z)) t.m Q
   have G:=CJ (u64 (t.m k)) (by unfold u64;omega) (b++Cv ⟨t.b,t.l,t.b',t.l'⟩++CU (λz=>Bl (u64 z)) t.m k) ZbC;apply Y1;refine Wq AZ ?_;refine Y0<|Aj<|Ct<|Ys<|Aj<|AWp.block<|Y1 ?_;refine Wq (Kd (ao rfl) (ao rfl) (Aa rfl) (Aa rfl) rfl Q (CellAt.mon Q)) ?_;refine Wa<|Y0<|AWp.region<|Wm<|Wm ?_;refine Wq (AD (r:=((u64 (t.m k):Nat):Int)) (ao rfl) (Aa rfl) (Aa rfl) (Tl (t.m k))) ?_
   exact Zgt
  .obtain rfl:k=8:=by omega
   refine Go ?_
   first | refine Be RetsA.none rfl ?_ rfl | refine AG RetsA.none rfl ?_ rfl
   exact⟨rfl,by rw[List.append_assoc];rfl⟩
theorem A3V(L:List (RTm))(O:Ew TW L):Wl 121 122 (IU L) (Bk Eq L):=Wl.intro λb E=>by
 have h:=CL (e:=Eq) (l:=L) λx _=>Ob x;have X:(Bk Eq L).length=(Bl L.length).length+(L.flatMap Eq).length:=ZhM
 rw[X]at E;have g:=CJ L.length Zbx b Zbx;refine Bm Tryz.func121 rfl (Ag Tryz.func121 Zbz Zbz) rfl λA m U=>?_;rw[Tryz.ntmps121];refine Y1<|Wm<|Wm ?_;refine Wq (Bh rfl (Aa rfl)) ?_;refine Wq (AD (r:=((L.length:Nat):Int)) (ao rfl) (Aa rfl) (Aa rfl) (DU Zbx)) ?_
 refine AF [0,1] [] [] (g) Zbs rfl rfl Zbu Zbt ZbA Zbr Zbw trivial rfl ?_;rintro _ _ ⟨rfl,rfl⟩;refine Kr ?_;refine Y0<|Y1<|Wm ?_;refine Wq (Bh rfl (Aa rfl)) ?_;refine Wm<|Y0<|AWp.block ?_
 refine AE (λu f=>∃k,k<=L.length/\u=L.length-k/\f=⟨[(0,.ptr 0 0),(2,.fn (122+1000000) [0]),(13,.d (IU L)),(14,.d (ex (.int .i64 (L.length:Nat)))),(15,.d (ex (.int .i64 (k:Nat))))],[.var 103 [.own 1],.row 5 1 (Cy (b++Bl L.length++(L.take k).flatMap Eq)),.pin [(m,.own 0)]]⟩) ?le ⟨0,by omega,rfl,rfl⟩ ?round
 case le=>exact ZhN
 case round=>
  rintro u _ ⟨k,B,rfl,rfl⟩;by_cases Q:k<L.length
  .have B:=CG Eq Q
   have G:=A2f (L.getD k default) (O _ (BX Q)) (b++Bl L.length++(L.take k).flatMap Eq) ZbM;apply Y1;refine Wq AZ ?_;refine Y0<|Aj<|Ct<|Ys<|Aj<|AWp.block<|Y1 ?_;refine Wq (Ch (k:=k) rfl (ao rfl) (Aa rfl) (Aa rfl) rfl Q) ?_;refine Wq BO ?_;refine Al ?_;refine Sf ?_;refine Y0<|AWp.region<|Wm ?_;refine Wq Bg ?_
   refine AF [0,1] [0] [] (G) Zbs rfl rfl Zbu Zbt ZbA Zbr Zbw trivial rfl ?_;rintro _ _ ⟨rfl,rfl⟩;refine Zfn ?_;exact Ac ZbJ (by exact HpLe.cons (Ad rfl)<|HpLe.cons (OwLe.row (by rw[BM Eq Q,<-List.append_assoc]))<|HpLe.cons (Ai rfl)<|HpLe.nil)
  .exact ZaS
theorem NE(l:List (RTm))(L:Ew TW l):Wr 55 (IU l) (Co l):=Wr.intro λb E=>by
 have G:=A3V l L b E;refine Bm Tryz.func55 rfl (Ag Tryz.func55 Zbz Zbz) rfl λA m U=>?_;rw[Tryz.ntmps55];refine ZgQ ?_;rintro _ _ ⟨rfl,rfl⟩;refine Zgb ?_
 exact Zbq
theorem A3W(L:List (List RTm))(O:Ew PoW L):Wl 219 55 (HU L) (Bk Co L):=Wl.intro λb E=>by
 have h:=CL (e:=Co) (l:=L) λx _=>Id _ _;have X:(Bk Co L).length=(Bl L.length).length+(L.flatMap Co).length:=ZhM
 rw[X]at E;have g:=CJ L.length Zbx b Zbx;refine Bm Tryz.func219 rfl (Ag Tryz.func219 Zbz Zbz) rfl λA m U=>?_;rw[Tryz.ntmps219];refine Y1<|Wm<|Wm ?_;refine Wq (Bh rfl (Aa rfl)) ?_;refine Wq (AD (r:=((L.length:Nat):Int)) (ao rfl) (Aa rfl) (Aa rfl) (DU Zbx)) ?_
 refine AF [0,1] [] [] (g) Zbs rfl rfl Zbu Zbt ZbA Zbr Zbw trivial rfl ?_;rintro _ _ ⟨rfl,rfl⟩;refine Kr ?_;refine Y0<|Y1<|Wm ?_;refine Wq (Bh rfl (Aa rfl)) ?_;refine Wm<|Y0<|AWp.block ?_
 refine AE (λu f=>∃k,k<=L.length/\u=L.length-k/\f=⟨[(0,.ptr 0 0),(2,.fn (55+1000000) [0]),(13,.d (HU L)),(14,.d (ex (.int .i64 (L.length:Nat)))),(15,.d (ex (.int .i64 (k:Nat))))],[.var 103 [.own 1],.row 5 1 (Cy (b++Bl L.length++(L.take k).flatMap Co)),.pin [(m,.own 0)]]⟩) ?le ⟨0,by omega,rfl,rfl⟩ ?round
 case le=>exact ZhN
 case round=>
  rintro u _ ⟨k,B,rfl,rfl⟩;by_cases Q:k<L.length
  .have B:=CG Co Q
   have G:=NE (L.getD k default) (O _ (BX Q)) (b++Bl L.length++(L.take k).flatMap Co) ZbM;apply Y1;refine Wq AZ ?_;refine Y0<|Aj<|Ct<|Ys<|Aj<|AWp.block<|Y1 ?_;refine Wq (Ch (k:=k) rfl (ao rfl) (Aa rfl) (Aa rfl) rfl Q) ?_;refine Wq Az ?_;refine Wa<|Y0<|AWp.region<|Wm<|Wm ?_
   refine AF [0,1] [0] [] (G) Zbs rfl rfl Zbu Zbt ZbA Zbr Zbw trivial rfl ?_;rintro _ _ ⟨rfl,rfl⟩;refine Zfn ?_;exact Ac ZbJ (by exact HpLe.cons (Ad rfl)<|HpLe.cons (OwLe.row (by rw[BM Co Q,<-List.append_assoc]))<|HpLe.cons (Ai rfl)<|HpLe.nil)
  .exact ZaS
theorem HV(l:List (List RTm))(L:Ew PoW l):Wr 119 (HU l) (AQ l):=Wr.intro λb E=>by
 have G:=A3W l L b E;refine Bm Tryz.func119 rfl (Ag Tryz.func119 Zbz Zbz) rfl λA m U=>?_;rw[Tryz.ntmps119];refine ZgQ ?_;rintro _ _ ⟨rfl,rfl⟩;refine Zgb ?_
 exact Zbq
theorem A2e(L:List (List (List RTm)))(O:Ew PsW L):Wl 273 119 (Vd L) (Bk AQ L):=Wl.intro λb E=>by
 have h:=CL (e:=AQ) (l:=L) λx _=>Id _ _;have X:(Bk AQ L).length=(Bl L.length).length+(L.flatMap AQ).length:=ZhM
 rw[X]at E;have g:=CJ L.length Zbx b Zbx;refine Bm Tryz.func273 rfl (Ag Tryz.func273 Zbz Zbz) rfl λA m U=>?_;rw[Tryz.ntmps273];refine Y1<|Wm<|Wm ?_;refine Wq (Bh rfl (Aa rfl)) ?_;refine Wq (AD (r:=((L.length:Nat):Int)) (ao rfl) (Aa rfl) (Aa rfl) (DU Zbx)) ?_
 refine AF [0,1] [] [] (g) Zbs rfl rfl Zbu Zbt ZbA Zbr Zbw trivial rfl ?_;rintro _ _ ⟨rfl,rfl⟩;refine Kr ?_;refine Y0<|Y1<|Wm ?_;refine Wq (Bh rfl (Aa rfl)) ?_;refine Wm<|Y0<|AWp.block ?_
 refine AE (λu f=>∃k,k<=L.length/\u=L.length-k/\f=⟨[(0,.ptr 0 0),(2,.fn (119+1000000) [0]),(13,.d (Vd L)),(14,.d (ex (.int .i64 (L.length:Nat)))),(15,.d (ex (.int .i64 (k:Nat))))],[.var 103 [.own 1],.row 5 1 (Cy (b++Bl L.length++(L.take k).flatMap AQ)),.pin [(m,.own 0)]]⟩) ?le ⟨0,by omega,rfl,rfl⟩ ?round
 case le=>exact ZhN
 case round=>
  rintro u _ ⟨k,B,rfl,rfl⟩;by_cases Q:k<L.length
  .have B:=CG AQ Q
   have G:=HV (L.getD k default) (O _ (BX Q)) (b++Bl L.length++(L.take k).flatMap AQ) ZbM;apply Y1;refine Wq AZ ?_;refine Y0<|Aj<|Ct<|Ys<|Aj<|AWp.block<|Y1 ?_;refine Wq (Ch (k:=k) rfl (ao rfl) (Aa rfl) (Aa rfl) rfl Q) ?_;refine Wq Az ?_;refine Wa<|Y0<|AWp.region<|Wm<|Wm ?_
   refine AF [0,1] [0] [] (G) Zbs rfl rfl Zbu Zbt ZbA Zbr Zbw trivial rfl ?_;rintro _ _ ⟨rfl,rfl⟩;refine Zfn ?_;exact Ac ZbJ (by exact HpLe.cons (Ad rfl)<|HpLe.cons (OwLe.row (by rw[BM AQ Q,<-List.append_assoc]))<|HpLe.cons (Ai rfl)<|HpLe.nil)
  .exact ZaS
theorem LW(l:List (List (List RTm)))(L:Ew PsW l):Wr 206 (Vd l) (Bs l):=Wr.intro λb E=>by
 have G:=A2e l L b E;refine Bm Tryz.func206 rfl (Ag Tryz.func206 Zbz Zbz) rfl λA m U=>?_;rw[Tryz.ntmps206];refine ZgQ ?_;rintro _ _ ⟨rfl,rfl⟩;refine Zgb ?_
 exact Zbq
theorem A5r(L:List (RQ))(O:Ew QB L):Wl 308 220 (Kf L) (Bk Cv L):=Wl.intro λb E=>by
 have h:=CL (e:=Cv) (l:=L) λx _=>Hx x;have X:(Bk Cv L).length=(Bl L.length).length+(L.flatMap Cv).length:=ZhM
 rw[X]at E;have g:=CJ L.length Zbx b Zbx;refine Bm Tryz.func308 rfl (Ag Tryz.func308 Zbz Zbz) rfl λA m U=>?_;rw[Tryz.ntmps308];refine Y1<|Wm<|Wm ?_;refine Wq (Bh rfl (Aa rfl)) ?_;refine Wq (AD (r:=((L.length:Nat):Int)) (ao rfl) (Aa rfl) (Aa rfl) (DU Zbx)) ?_
 refine AF [0,1] [] [] (g) Zbs rfl rfl Zbu Zbt ZbA Zbr Zbw trivial rfl ?_;rintro _ _ ⟨rfl,rfl⟩;refine Kr ?_;refine Y0<|Y1<|Wm ?_;refine Wq (Bh rfl (Aa rfl)) ?_;refine Wm<|Y0<|AWp.block ?_
 refine AE (λu f=>∃k,k<=L.length/\u=L.length-k/\f=⟨[(0,.ptr 0 0),(2,.fn (220+1000000) [0]),(13,.d (Kf L)),(14,.d (ex (.int .i64 (L.length:Nat)))),(15,.d (ex (.int .i64 (k:Nat))))],[.var 103 [.own 1],.row 5 1 (Cy (b++Bl L.length++(L.take k).flatMap Cv)),.pin [(m,.own 0)]]⟩) ?le ⟨0,by omega,rfl,rfl⟩ ?round
 case le=>exact ZhN
 case round=>
  rintro u _ ⟨k,B,rfl,rfl⟩;by_cases Q:k<L.length
  .have B:=CG Cv Q
   have G:=Fc (L.getD k default) (O _ (BX Q)) (b++Bl L.length++(L.take k).flatMap Cv) ZbM;apply Y1;refine Wq AZ ?_;refine Y0<|Aj<|Ct<|Ys<|Aj<|AWp.block<|Y1 ?_;refine Wq (Ch (k:=k) rfl (ao rfl) (Aa rfl) (Aa rfl) rfl Q) ?_;refine Wq BO ?_;refine Al ?_;refine Sf ?_;refine Y0<|AWp.region<|Wm ?_;refine Wq Bg ?_
   refine AF [0,1] [0] [] (G) Zbs rfl rfl Zbu Zbt ZbA Zbr Zbw trivial rfl ?_;rintro _ _ ⟨rfl,rfl⟩;refine Zfn ?_;exact Ac ZbJ (by exact HpLe.cons (Ad rfl)<|HpLe.cons (OwLe.row (by rw[BM Cv Q,<-List.append_assoc]))<|HpLe.cons (Ai rfl)<|HpLe.nil)
  .exact ZaS
theorem Kl(l:List (RQ))(L:Ew QB l):Wr 274 (Kf l) (Ft l):=Wr.intro λb E=>by
 have G:=A5r l L b E;refine Bm Tryz.func274 rfl (Ag Tryz.func274 Zbz Zbz) rfl λA m U=>?_;rw[Tryz.ntmps274];refine ZgQ ?_;rintro _ _ ⟨rfl,rfl⟩;refine Zgb ?_
 exact Zbq
theorem A5q(L:List (Nat->Int))(O:Ew (Gu IW) L):Wl 123 124 (EZ L) (Bk Fv L):=Wl.intro λb E=>by
 have h:=CL (e:=Fv) (l:=L) λx _=>Gz JL x;have X:(Bk Fv L).length=(Bl L.length).length+(L.flatMap Fv).length:=ZhM
 rw[X]at E;have g:=CJ L.length Zbx b Zbx;refine Bm Tryz.func123 rfl (Ag Tryz.func123 Zbz Zbz) rfl λA m U=>?_;rw[Tryz.ntmps123];refine Y1<|Wm<|Wm ?_;refine Wq (Bh rfl (Aa rfl)) ?_;refine Wq (AD (r:=((L.length:Nat):Int)) (ao rfl) (Aa rfl) (Aa rfl) (DU Zbx)) ?_
 refine AF [0,1] [] [] (g) Zbs rfl rfl Zbu Zbt ZbA Zbr Zbw trivial rfl ?_;rintro _ _ ⟨rfl,rfl⟩;refine Kr ?_;refine Y0<|Y1<|Wm ?_;refine Wq (Bh rfl (Aa rfl)) ?_;refine Wm<|Y0<|AWp.block ?_
 refine AE (λu f=>∃k,k<=L.length/\u=L.length-k/\f=⟨[(0,.ptr 0 0),(2,.fn (124+1000000) [0]),(13,.d (EZ L)),(14,.d (ex (.int .i64 (L.length:Nat)))),(15,.d (ex (.int .i64 (k:Nat))))],[.var 103 [.own 1],.row 5 1 (Cy (b++Bl L.length++(L.take k).flatMap Fv)),.pin [(m,.own 0)]]⟩) ?le ⟨0,by omega,rfl,rfl⟩ ?round
 case le=>exact ZhN
 case round=>
  rintro u _ ⟨k,B,rfl,rfl⟩;by_cases Q:k<L.length
  .have B:=CG Fv Q
   have G:=OH (L.getD k default) (O _ (BX Q)) (b++Bl L.length++(L.take k).flatMap Fv) ZbM;apply Y1;refine Wq AZ ?_;refine Y0<|Aj<|Ct<|Ys<|Aj<|AWp.block<|Y1 ?_;refine Wq (Ch (k:=k) rfl (ao rfl) (Aa rfl) (Aa rfl) rfl Q) ?_;refine Wq BO ?_;refine Al ?_;refine Sf ?_;refine Y0<|AWp.region<|Wm ?_;refine Wq Bg ?_
   refine AF [0,1] [0] [] (G) Zbs rfl rfl Zbu Zbt ZbA Zbr Zbw trivial rfl ?_;rintro _ _ ⟨rfl,rfl⟩;refine Zfn ?_;exact Ac ZbJ (by exact HpLe.cons (Ad rfl)<|HpLe.cons (OwLe.row (by rw[BM Fv Q,<-List.append_assoc]))<|HpLe.cons (Ai rfl)<|HpLe.nil)
  .exact ZaS
theorem OC(l:List (Nat->Int))(L:Ew (Gu IW) l):Wr 56 (EZ l) (Cc l):=Wr.intro λb E=>by
 have G:=A5q l L b E;refine Bm Tryz.func56 rfl (Ag Tryz.func56 Zbz Zbz) rfl λA m U=>?_;rw[Tryz.ntmps56];refine ZgQ ?_;rintro _ _ ⟨rfl,rfl⟩;refine Zgb ?_
 exact Zbq
theorem A5t(L:List (Nat->RQ×RQ))(O:Ew (Gu VW) L):Wl 271 272 (Gf L) (Bk GD L):=Wl.intro λb E=>by
 have h:=CL (e:=GD) (l:=L) λx _=>Gz Mm x;have X:(Bk GD L).length=(Bl L.length).length+(L.flatMap GD).length:=ZhM
 rw[X]at E;have g:=CJ L.length Zbx b Zbx;refine Bm Tryz.func271 rfl (Ag Tryz.func271 Zbz Zbz) rfl λA m U=>?_;rw[Tryz.ntmps271];refine Y1<|Wm<|Wm ?_;refine Wq (Bh rfl (Aa rfl)) ?_;refine Wq (AD (r:=((L.length:Nat):Int)) (ao rfl) (Aa rfl) (Aa rfl) (DU Zbx)) ?_
 refine AF [0,1] [] [] (g) Zbs rfl rfl Zbu Zbt ZbA Zbr Zbw trivial rfl ?_;rintro _ _ ⟨rfl,rfl⟩;refine Kr ?_;refine Y0<|Y1<|Wm ?_;refine Wq (Bh rfl (Aa rfl)) ?_;refine Wm<|Y0<|AWp.block ?_
 refine AE (λu f=>∃k,k<=L.length/\u=L.length-k/\f=⟨[(0,.ptr 0 0),(2,.fn (272+1000000) [0]),(13,.d (Gf L)),(14,.d (ex (.int .i64 (L.length:Nat)))),(15,.d (ex (.int .i64 (k:Nat))))],[.var 103 [.own 1],.row 5 1 (Cy (b++Bl L.length++(L.take k).flatMap GD)),.pin [(m,.own 0)]]⟩) ?le ⟨0,by omega,rfl,rfl⟩ ?round
 case le=>exact ZhN
 case round=>
  rintro u _ ⟨k,B,rfl,rfl⟩;by_cases Q:k<L.length
  .have B:=CG GD Q
   have G:=A4Q (L.getD k default) (O _ (BX Q)) (b++Bl L.length++(L.take k).flatMap GD) ZbM;apply Y1;refine Wq AZ ?_;refine Y0<|Aj<|Ct<|Ys<|Aj<|AWp.block<|Y1 ?_;refine Wq (Ch (k:=k) rfl (ao rfl) (Aa rfl) (Aa rfl) rfl Q) ?_;refine Wq BO ?_;refine Al ?_;refine Sf ?_;refine Y0<|AWp.region<|Wm ?_;refine Wq Bg ?_
   refine AF [0,1] [0] [] (G) Zbs rfl rfl Zbu Zbt ZbA Zbr Zbw trivial rfl ?_;rintro _ _ ⟨rfl,rfl⟩;refine Zfn ?_;exact Ac ZbJ (by exact HpLe.cons (Ad rfl)<|HpLe.cons (OwLe.row (by rw[BM GD Q,<-List.append_assoc]))<|HpLe.cons (Ai rfl)<|HpLe.nil)
  .exact ZaS
theorem Uu(l:List (Nat->RQ×RQ))(L:Ew (Gu VW) l):Wr 205 (Gf l) (EB l):=Wr.intro λb E=>by
 have G:=A5t l L b E;refine Bm Tryz.func205 rfl (Ag Tryz.func205 Zbz Zbz) rfl λA m U=>?_;rw[Tryz.ntmps205];refine ZgQ ?_;rintro _ _ ⟨rfl,rfl⟩;refine Zgb ?_
 exact Zbq
theorem Yz(s:RQ×List RTm)(A:SqW s):Wr 211 (AL (Kw s)) (IZ s):=Wr.intro λb E=>by
 simp only[IZ,List.length_append]at E;have g:=Fc s.1 A.1 (b) ZbC;have u:=NE s.2 A.2 (b++Cv s.1) ZbC;refine Bm Tryz.func211 rfl (Ag Tryz.func211 Zbz Zbz) rfl λB m U=>?_;rw[Tryz.ntmps211];refine ZeG ?_;rintro _ _ ⟨rfl,rfl⟩;refine Kr ?_;refine ZeK ?_;rintro _ _ ⟨rfl,rfl⟩;refine Zgb ?_
 first | refine Be RetsA.none rfl ?_ rfl | refine AG RetsA.none rfl ?_ rfl
 exact⟨rfl,by simp only[IZ,List.append_assoc];rfl⟩
theorem A5s(L:List (Int))(O:Ew IW L):Wl 204 54 (Kh L) (Bk Bc L):=Wl.intro λb E=>by
 have h:=CL (e:=Bc) (l:=L) λx _=>JL x;have X:(Bk Bc L).length=(Bl L.length).length+(L.flatMap Bc).length:=ZhM
 rw[X]at E;have g:=CJ L.length Zbx b Zbx;refine Bm Tryz.func204 rfl (Ag Tryz.func204 Zbz Zbz) rfl λA m U=>?_;rw[Tryz.ntmps204];refine Y1<|Wm<|Wm ?_;refine Wq (Bh rfl (Aa rfl)) ?_;refine Wq (AD (r:=((L.length:Nat):Int)) (ao rfl) (Aa rfl) (Aa rfl) (DU Zbx)) ?_
 refine AF [0,1] [] [] (g) Zbs rfl rfl Zbu Zbt ZbA Zbr Zbw trivial rfl ?_;rintro _ _ ⟨rfl,rfl⟩;refine Kr ?_;refine Y0<|Y1<|Wm ?_;refine Wq (Bh rfl (Aa rfl)) ?_;refine Wm<|Y0<|AWp.block ?_
 refine AE (λu f=>∃k,k<=L.length/\u=L.length-k/\f=⟨[(0,.ptr 0 0),(2,.fn (54+1000000) [0]),(13,.d (Kh L)),(14,.d (ex (.int .i64 (L.length:Nat)))),(15,.d (ex (.int .i64 (k:Nat))))],[.var 103 [.own 1],.row 5 1 (Cy (b++Bl L.length++(L.take k).flatMap Bc)),.pin [(m,.own 0)]]⟩) ?le ⟨0,by omega,rfl,rfl⟩ ?round
 case le=>exact ZhN
 case round=>
  rintro u _ ⟨k,B,rfl,rfl⟩;by_cases Q:k<L.length
  .have B:=CG Bc Q
   have G:=EF (L.getD k default) (O _ (BX Q)) (b++Bl L.length++(L.take k).flatMap Bc) ZbM;apply Y1;refine Wq AZ ?_;refine Y0<|Aj<|Ct<|Ys<|Aj<|AWp.block<|Y1 ?_;refine Wq (Ch (k:=k) rfl (ao rfl) (Aa rfl) (Aa rfl) rfl Q) ?_;refine Wq Az ?_;refine Wa<|Y0<|AWp.region<|Wm<|Wm ?_
   refine AF [0,1] [0] [] (G) Zbs rfl rfl Zbu Zbt ZbA Zbr Zbw trivial rfl ?_;rintro _ _ ⟨rfl,rfl⟩;refine Zfn ?_;exact Ac ZbJ (by exact HpLe.cons (Ad rfl)<|HpLe.cons (OwLe.row (by rw[BM Bc Q,<-List.append_assoc]))<|HpLe.cons (Ai rfl)<|HpLe.nil)
  .exact ZaS
theorem A6f(L:List (RQ×RQ))(O:Ew VW L):Wl 208 209 (Zd L) (Bk FH L):=Wl.intro λb E=>by
 have h:=CL (e:=FH) (l:=L) λx _=>Mm x;have X:(Bk FH L).length=(Bl L.length).length+(L.flatMap FH).length:=ZhM
 rw[X]at E;have g:=CJ L.length Zbx b Zbx;refine Bm Tryz.func208 rfl (Ag Tryz.func208 Zbz Zbz) rfl λA m U=>?_;rw[Tryz.ntmps208];refine Y1<|Wm<|Wm ?_;refine Wq (Bh rfl (Aa rfl)) ?_;refine Wq (AD (r:=((L.length:Nat):Int)) (ao rfl) (Aa rfl) (Aa rfl) (DU Zbx)) ?_
 refine AF [0,1] [] [] (g) Zbs rfl rfl Zbu Zbt ZbA Zbr Zbw trivial rfl ?_;rintro _ _ ⟨rfl,rfl⟩;refine Kr ?_;refine Y0<|Y1<|Wm ?_;refine Wq (Bh rfl (Aa rfl)) ?_;refine Wm<|Y0<|AWp.block ?_
 refine AE (λu f=>∃k,k<=L.length/\u=L.length-k/\f=⟨[(0,.ptr 0 0),(2,.fn (209+1000000) [0]),(13,.d (Zd L)),(14,.d (ex (.int .i64 (L.length:Nat)))),(15,.d (ex (.int .i64 (k:Nat))))],[.var 103 [.own 1],.row 5 1 (Cy (b++Bl L.length++(L.take k).flatMap FH)),.pin [(m,.own 0)]]⟩) ?le ⟨0,by omega,rfl,rfl⟩ ?round
 case le=>exact ZhN
 case round=>
  rintro u _ ⟨k,B,rfl,rfl⟩;by_cases Q:k<L.length
  .have B:=CG FH Q
   have G:=MW (L.getD k default) (O _ (BX Q)) (b++Bl L.length++(L.take k).flatMap FH) ZbM;apply Y1;refine Wq AZ ?_;refine Y0<|Aj<|Ct<|Ys<|Aj<|AWp.block<|Y1 ?_;refine Wq (Ch (k:=k) rfl (ao rfl) (Aa rfl) (Aa rfl) rfl Q) ?_;refine Wq BO ?_;refine Al ?_;refine Sf ?_;refine Y0<|AWp.region<|Wm ?_;refine Wq Bg ?_
   refine AF [0,1] [0] [] (G) Zbs rfl rfl Zbu Zbt ZbA Zbr Zbw trivial rfl ?_;rintro _ _ ⟨rfl,rfl⟩;refine Zfn ?_;exact Ac ZbJ (by exact HpLe.cons (Ad rfl)<|HpLe.cons (OwLe.row (by rw[BM FH Q,<-List.append_assoc]))<|HpLe.cons (Ai rfl)<|HpLe.nil)
  .exact ZaS
theorem A6d(L:List (RQ×List RTm))(O:Ew SqW L):Wl 210 211 (YB L) (Bk IZ L):=Wl.intro λb E=>by
 have h:=CL (e:=IZ) (l:=L) λx _=>Vo x;have X:(Bk IZ L).length=(Bl L.length).length+(L.flatMap IZ).length:=ZhM
 rw[X]at E;have g:=CJ L.length Zbx b Zbx;refine Bm Tryz.func210 rfl (Ag Tryz.func210 Zbz Zbz) rfl λA m U=>?_;rw[Tryz.ntmps210];refine Y1<|Wm<|Wm ?_;refine Wq (Bh rfl (Aa rfl)) ?_;refine Wq (AD (r:=((L.length:Nat):Int)) (ao rfl) (Aa rfl) (Aa rfl) (DU Zbx)) ?_
 refine AF [0,1] [] [] (g) Zbs rfl rfl Zbu Zbt ZbA Zbr Zbw trivial rfl ?_;rintro _ _ ⟨rfl,rfl⟩;refine Kr ?_;refine Y0<|Y1<|Wm ?_;refine Wq (Bh rfl (Aa rfl)) ?_;refine Wm<|Y0<|AWp.block ?_
 refine AE (λu f=>∃k,k<=L.length/\u=L.length-k/\f=⟨[(0,.ptr 0 0),(2,.fn (211+1000000) [0]),(13,.d (YB L)),(14,.d (ex (.int .i64 (L.length:Nat)))),(15,.d (ex (.int .i64 (k:Nat))))],[.var 103 [.own 1],.row 5 1 (Cy (b++Bl L.length++(L.take k).flatMap IZ)),.pin [(m,.own 0)]]⟩) ?le ⟨0,by omega,rfl,rfl⟩ ?round
 case le=>exact ZhN
 case round=>
  rintro u _ ⟨k,B,rfl,rfl⟩;by_cases Q:k<L.length
  .have B:=CG IZ Q
   have G:=Yz (L.getD k default) (O _ (BX Q)) (b++Bl L.length++(L.take k).flatMap IZ) ZbM;apply Y1;refine Wq AZ ?_;refine Y0<|Aj<|Ct<|Ys<|Aj<|AWp.block<|Y1 ?_;refine Wq (Ch (k:=k) rfl (ao rfl) (Aa rfl) (Aa rfl) rfl Q) ?_;refine Wq BO ?_;refine Al ?_;refine Sf ?_;refine Y0<|AWp.region<|Wm ?_;refine Wq Bg ?_
   refine AF [0,1] [0] [] (G) Zbs rfl rfl Zbu Zbt ZbA Zbr Zbw trivial rfl ?_;rintro _ _ ⟨rfl,rfl⟩;refine Zfn ?_;exact Ac ZbJ (by exact HpLe.cons (Ad rfl)<|HpLe.cons (OwLe.row (by rw[BM IZ Q,<-List.append_assoc]))<|HpLe.cons (Ai rfl)<|HpLe.nil)
  .exact ZaS
theorem A6e(L:List (Nat->RQ))(O:Ew (Gu QB) L):Wl 212 213 (A2v L) (Bk ND L):=Wl.intro λb E=>by
 have h:=CL (e:=ND) (l:=L) λx _=>Gz Hx x;have X:(Bk ND L).length=(Bl L.length).length+(L.flatMap ND).length:=ZhM
 rw[X]at E;have g:=CJ L.length Zbx b Zbx;refine Bm Tryz.func212 rfl (Ag Tryz.func212 Zbz Zbz) rfl λA m U=>?_;rw[Tryz.ntmps212];refine Y1<|Wm<|Wm ?_;refine Wq (Bh rfl (Aa rfl)) ?_;refine Wq (AD (r:=((L.length:Nat):Int)) (ao rfl) (Aa rfl) (Aa rfl) (DU Zbx)) ?_
 refine AF [0,1] [] [] (g) Zbs rfl rfl Zbu Zbt ZbA Zbr Zbw trivial rfl ?_;rintro _ _ ⟨rfl,rfl⟩;refine Kr ?_;refine Y0<|Y1<|Wm ?_;refine Wq (Bh rfl (Aa rfl)) ?_;refine Wm<|Y0<|AWp.block ?_
 refine AE (λu f=>∃k,k<=L.length/\u=L.length-k/\f=⟨[(0,.ptr 0 0),(2,.fn (213+1000000) [0]),(13,.d (A2v L)),(14,.d (ex (.int .i64 (L.length:Nat)))),(15,.d (ex (.int .i64 (k:Nat))))],[.var 103 [.own 1],.row 5 1 (Cy (b++Bl L.length++(L.take k).flatMap ND)),.pin [(m,.own 0)]]⟩) ?le ⟨0,by omega,rfl,rfl⟩ ?round
 case le=>exact ZhN
 case round=>
  rintro u _ ⟨k,B,rfl,rfl⟩;by_cases Q:k<L.length
  .have B:=CG ND Q
   have G:=A0y (L.getD k default) (O _ (BX Q)) (b++Bl L.length++(L.take k).flatMap ND) ZbM;apply Y1;refine Wq AZ ?_;refine Y0<|Aj<|Ct<|Ys<|Aj<|AWp.block<|Y1 ?_;refine Wq (Ch (k:=k) rfl (ao rfl) (Aa rfl) (Aa rfl) rfl Q) ?_;refine Wq BO ?_;refine Al ?_;refine Sf ?_;refine Y0<|AWp.region<|Wm ?_;refine Wq Bg ?_
   refine AF [0,1] [0] [] (G) Zbs rfl rfl Zbu Zbt ZbA Zbr Zbw trivial rfl ?_;rintro _ _ ⟨rfl,rfl⟩;refine Zfn ?_;exact Ac ZbJ (by exact HpLe.cons (Ad rfl)<|HpLe.cons (OwLe.row (by rw[BM ND Q,<-List.append_assoc]))<|HpLe.cons (Ai rfl)<|HpLe.nil)
  .exact ZaS
end
end Go.Proofs.YtcikkglcoeedlaaGreat
