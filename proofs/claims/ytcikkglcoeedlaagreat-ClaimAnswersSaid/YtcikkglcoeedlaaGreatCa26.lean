/- Part 26 of the proof of claimAnswers_holds. No condition. -/
import Derived.Laws.BytesString
import Derived.Laws.Cells
import Derived.Laws.Strings
import Derived.Test.YtcikkglcoeedlaaGreatCa20
import Derived.Test.YtcikkglcoeedlaaGreatCa21
import Derived.Test.YtcikkglcoeedlaaGreatCa22
set_option linter.unusedSimpArgs false
set_option linter.unusedVariables false
set_option maxRecDepth 100000
namespace Go.Proofs.YtcikkglcoeedlaaGreat
variable{vr:Array TypeId}{vp:Code}{r vt:D}{vb:FuncId}{s:GS}{u:List AV}{c vn uS:List D}{l f vo:List Nat}{vJ:List Operand}{H vA:List Ow}{n b T:Nat}{uK:Nat->List D}{x y:Operand}{vz:Operand->AV}{P:Program}{e:Type}{t U:TypeId}{z v ue:Value}
section
open Go.RowKit
def CE(b:List Nat):List (List D):=b.map λz=>[ex (.int .u8 (z:Nat))]
def FR(T:TypeId)(b:List Nat):D:=slD T 1 (CE b)
def byS(b:List Nat):ByteArray:=(b.map λz:Nat=>(z:Int)).foldl (λr n=>r.push (UInt8.ofNat n.toNat)) ByteArray.empty
def Zx(b:List Nat):D:=ex (.string (byS b))
theorem CG(b:List Nat):(CE b).length=b.length:=by simp[CE]
theorem A2h{k:Nat}(h:k<l.length):(CE l).getD k []=[ex (.int .u8 ((l.getD k 0:Nat):Int))]:=by
 simp[CE,h]
theorem Hy(b c:List Nat):CE (b++c)=CE b++CE c:=by simp[CE]
theorem Vi:∀(b:List Nat) (r:ByteArray),((b.map λz:Nat=>(z:Int)).foldl (λr n=>r.push (UInt8.ofNat n.toNat)) r).data=r.data++(b.map UInt8.ofNat).toArray
 |[],r=>by simp
 |z::b,r=>by
  rw[List.map_cons,List.foldl_cons,Vi b];simp
theorem Vh(b:List Nat):(byS b).toList=b.map UInt8.ofNat:=by
 rw[ByteArray.toList_eq,byS,Vi];simp
theorem A15:∀{b c:List Nat},(∀z∈b,z<256)->(∀z∈c,z<256)->b.map UInt8.ofNat=c.map UInt8.ofNat->b=c
 |[],[],_,_,_=>rfl
 |[],_::_,_,_,h=>by simp at h
 |_::_,[],_,_,h=>by simp at h
 |z::b,y::c,F,I,h=>by
  simp only[List.map_cons,List.cons.injEq]at h;have A:=congrArg UInt8.toNat h.1;rw[UInt8.toNat_ofNat',UInt8.toNat_ofNat',Nat.mod_eq_of_lt (F z List.mem_cons_self),Nat.mod_eq_of_lt (I y List.mem_cons_self)]at A;rw[A,A15 (λx E=>F x (List.mem_cons_of_mem _ E)) (λx E=>I x (List.mem_cons_of_mem _ E)) h.2]
theorem Zb(F:∀z∈l,z<256)(I:∀z∈f,z<256):((byS l).toList==(byS f).toList)=decide (l=f):=by
 rw[Vh,Vh];by_cases h:l=f
 .subst h;simp
 .rw [decide_eq_false h]
  exact beq_eq_false_iff_ne.2 λe=>h (A15 F I e)
theorem A49(w:World)(l:List Nat)(A:Option Addr)(c:Nat)(V:0<(CE l).length->∃b o,A=some ⟨b,o,none⟩/\(∀k,k<(CE l).length->((CE l).getD k []).length=1/\Lies s b (o+k*1) n ((CE l).getD k [])))(W:w=s.w):(Conv.bytesToString (.slice A l.length c)).run P w=.ok (.string (byS l)) w:=by
 subst W;by_cases B:0<l.length
 .obtain ⟨g, o, rfl, m⟩:=V (by rw [CG]; exact B)
  refine run_bytesToString s.w ⟨g,o,none⟩ l.length c (l.map λz:Nat=>(z:Int)) ?_
  have:=run_loadCells (P:=P) (w:=s.w) ⟨g,o,none⟩ l.length (λj=>.int .u8 ((l.getD j 0:Nat):Int)) λj e=>by
   obtain⟨-,C⟩:=m j (by rw[CG];exact e);rw[A2h e]at C;obtain⟨u,d,-,E⟩:=C.cell (k:=0) ZbV;have E:u=.int .u8 ((l.getD j 0:Nat):Int):=E;rw[E]at d
   have x:(⟨g,o,none⟩:Addr).add j=⟨g,o+j,none⟩:=by
    unfold Addr.add;split
    .rename_i B;subst B;rfl
    .rfl
   rw[x];simpa using d
  rw[this];congr 1;apply Array.ext';apply List.ext_getElem?;intro j;simp;by_cases e:j<l.length
  .simp [e]
  .simp [e]
 .obtain rfl:l=[]:=List.eq_nil_of_length_eq_zero ZbK
  have v:∀A c,(Conv.bytesToString (.slice A 0 c)).run P s.w=.ok (.string ByteArray.empty) s.w:=λA c=>by
   cases A with
   |none=>rfl
   |some a=>exact run_bytesToString s.w a 0 c [] rfl
  exact v A c
section
variable {P:Program} {hp:List Ow} {arg:Operand->AV} {dd:Option Tmp} {ty:TypeId} {ps:String} {af:Array Edge} {gd:Option (Nat×Bool)}
theorem GB{S T E n b Y r O N Q:Nat}(F:GG hp (arg x)=some (FR Q l))(j:Tab P S (.slice E) n b z)(G:Tab P E (.int .u8) O N ue)(K:Tab P T .string Y r v):Quiet P hp ⟨dd,.convert S T x,ty,ps,af,gd⟩ arg (.d (Zx l)):=by
 refine⟨λbase s W J H M Z h=>?_⟩;have B:=DN Z (h x ZcE) F;obtain⟨A,c,I,C,L,V⟩:=B;rw[CG]at I C;refine BO (v:=.string (byS l)) ?_ ⟨GS.Le.refl s,rfl⟩
 have key:(convert S T (J x)).run P s.w=.ok (.string (byS l)) s.w:=by
  rw[I,run_convert_bytes_string s.w S T E A l.length c j.und G.und K.und];exact A49 s.w l A c V rfl
 simp only[execOp,Sem.run_bind,key,Result.andThen_ok,Sem.run_pure]
theorem A2F{b c:List Nat}(E:arg x=.d (Zx b))(O:arg y=.d (Zx c))(F:∀z∈b,z<256)(I:∀z∈c,z<256):Quiet P hp ⟨dd,.binOp .eql t x y U,ty,ps,af,gd⟩ arg (.d (ex (.bool (decide (b=c))))):=
 Cz rfl E O λw=>by
  have:=Zb F I;simp only[eqGuard,binOp,Op.stringOp,this];rfl
theorem VI{T U:TypeId}{b c:List Nat}(E:arg x=.d (Zx b))(O:arg y=.d (Zx c))(F:∀z∈b,z<256)(I:∀z∈c,z<256):Quiet P hp ⟨dd,.binOp .neq T x y U,ty,ps,af,gd⟩ arg (.d (ex (.bool (!decide (b=c))))):=
 Cz rfl E O λw=>by
  have:=Zb F I;simp only[eqGuard,binOp,Op.stringOp,this];rfl
end
def FU(c:Nat->List D):List D:=c 0++(c 1++(c 2++(c 3++(c 4++(c 5++(c 6++c 7))))))
theorem DL{c:Nat->List D}(h:∀i,(c i).length=n):(FU c).length=8*n:=by
 simp only[FU,List.length_append,h];omega
theorem ST(h:∀b,(uK b).length=n)(M:b<8)(w:T<n):(FU uK)[b*n+T]? = (uK b)[T]?:=by
 unfold FU
 match b,M with
 |0,_=>rw[List.getElem?_append_left Zcl];exact Zgm
 |1,_=>rw[List.getElem?_append_right Zcl,h,List.getElem?_append_left Zcl];exact Zgm
 |2,_=>rw[List.getElem?_append_right Zcl,h,List.getElem?_append_right Zcl,h,List.getElem?_append_left Zcl];exact Zgm
 |3,_=>rw[List.getElem?_append_right Zcl,h,List.getElem?_append_right Zcl,h,List.getElem?_append_right Zcl,h,List.getElem?_append_left Zcl];exact Zgm
 |4,_=>rw[List.getElem?_append_right Zcl,h,List.getElem?_append_right Zcl,h,List.getElem?_append_right Zcl,h,List.getElem?_append_right Zcl,h,List.getElem?_append_left Zcl];exact Zgm
 |5,_=>rw[List.getElem?_append_right Zcl,h,List.getElem?_append_right Zcl,h,List.getElem?_append_right Zcl,h,List.getElem?_append_right Zcl,h,List.getElem?_append_right Zcl,h,List.getElem?_append_left Zcl];exact Zgm
 |6,_=>rw[List.getElem?_append_right Zcl,h,List.getElem?_append_right Zcl,h,List.getElem?_append_right Zcl,h,List.getElem?_append_right Zcl,h,List.getElem?_append_right Zcl,h,List.getElem?_append_right Zcl,h,List.getElem?_append_left Zcl];exact Zgm
 |7,_=>rw[List.getElem?_append_right Zcl,h,List.getElem?_append_right Zcl,h,List.getElem?_append_right Zcl,h,List.getElem?_append_right Zcl,h,List.getElem?_append_right Zcl,h,List.getElem?_append_right Zcl,h,List.getElem?_append_right Zcl,h];exact Zgm
theorem HB{c:Nat->List D}(h:∀b,(c b).length=n)(M:b<8):PartAt (FU c) (b*n) n (c b):=by
 have t:b*n+n<=8*n:=ZhJ
 refine⟨by rw[DL h];omega,?_⟩;apply List.ext_getElem?;intro q;rw[List.getElem?_take];split
 .rename_i w
  rw[List.getElem?_drop];exact ST h M w
 .rename_i w
  rw[List.getElem?_eq_none Zcl]
theorem A0j(h:∀b,(uK b).length=n)(E:c.length=n)(M:b<8):SetAt (FU uK) (b*n) c (FU (Yj uK b c)):=by
 have L:∀j,(Yj uK b c j).length=n:=λj=>by unfold Yj;split;exact E;exact h j
 have t:b*n+n<=8*n:=ZhJ
 refine⟨by rw[DL h];omega,?_⟩;apply List.ext_getElem?;intro q;by_cases w:q<8*n
 .have i:0<n:=by rcases Nat.eq_zero_or_pos n with e | e; subst e; omega; exact e
  have C:q=q/n*n+q%n:=by have:=Nat.div_add_mod q n;rw[Nat.mul_comm]at this;omega
  have Q:q/n<8:=by rw[Nat.div_lt_iff_lt_mul i];exact w
  have F:q%n<n:=Nat.mod_lt _ i
  have v:(FU (Yj uK b c))[q]? = (Yj uK b c (q/n))[q%n]?:=by
   have:=ST L Q F;rwa [<-C]at this
  have x:(FU uK)[q]? = (uK (q/n))[q%n]?:=by
   have:=ST h Q F;rwa [<-C]at this
  rw[v];unfold Rx;have J:((FU uK).take (b*n)).length=b*n:=by rw[List.length_take,DL h];omega
  by_cases A:q<b*n
  .have:q/n≠b:=λe=>by rw [e] at C;omega
   rw[List.getElem?_append_left ZbK,List.getElem?_take,if_pos A,x,Yj,if_neg this]
  .rw [List.getElem?_append_right ZbK, J]
   by_cases B:q<b*n+n
   .have W:q/n=b:=by
     apply Nat.div_eq_of_lt_le
     .omega
     .rw [Nat.succ_mul];omega
    have X:q-b*n=q%n:=by rw[W]at C;omega
    rw[List.getElem?_append_left ZbK,Yj,if_pos W,X]
   .have:q/n≠b:=λe=>by rw [e] at C;omega
    rw[List.getElem?_append_right ZbK,List.getElem?_drop,E,Yj,if_neg this,<-x];exact Zgm
 .rw [List.getElem?_eq_none (by rw[Hj (by rw[DL h];omega),DL h];omega),List.getElem?_eq_none (by rw[DL L];omega)]
def Ih(q:RQ):List D:=A3r q.b q.l q.b' q.l'
def Ip(L:List (List RTm)):D:=slD 28 1 (L.map λp=>[Jh p])
def Wc(L:List (List (List RTm))):D:=slD 24 1 (L.map λp=>[Ip p])
def KG(L:List RQ):D:=slD 111 4 (L.map Ih)
def Lw(a:RQ×RQ):List D:=Ih a.1++Ih a.2
def A00(L:List (RQ×RQ)):D:=slD 129 8 (L.map Lw)
def DH(f:Nat->RQ×RQ):List D:=FU λi=>Lw (f i)
def Gy(L:List (Nat->RQ×RQ)):D:=slD 131 64 (L.map DH)
def Pq(f:Nat->RQ):List D:=FU λi=>Ih (f i)
def A3t(L:List (Nat->RQ)):D:=slD 187 32 (L.map Pq)
def KV(s:RQ×List RTm):List D:=Ih s.1++[Jh s.2]
def ZA(L:List (RQ×List RTm)):D:=slD 184 5 (L.map KV)
def LG(L:List Int):D:=slD 3 1 (L.map λz=>[ex (.int .i64 z)])
def Fm(k:Cor):List D:=[ex (.int .i64 k.n),Ip k.e,Ip k.f]
def El(c:Clm):List D:=[ex (.int .i64 c.kind),Jh c.p,ex (.int .i64 c.n),ex (.int .i64 c.d),ex (.int .i64 c.r),DW c.o,Ip c.l,LG c.s,Gy c.b]
def up8(f:Nat->List RQ):List D:=oct λi=>KG (f i)
def SI(r:Rsl):List D:=Co r.l++(KG r.q::up8 r.r)
def Ek(e:Crt):List D:=[ex (.int .i64 e.n),Ip e.cof,Ip e.g,DW e.o,Wc e.c,Wc e.q,Wc e.s]++(SI e.r++[A00 e.a,ZA e.sq,A3t e.x,Gy e.b])
def Fa(f:Fct):List D:=Fm f.k++(El f.c++Ek f.e)
def RelL(s:GS)(R:List D)(G:List Value):Prop:=G.length=R.length/\∀k,k<R.length->(Dd R k).rel s (G.getD k undef)
theorem RelL.app{x y:List Value}(h:RelL s c x)(k:RelL s vn y):RelL s (c++vn) (x++y):=by
 refine⟨by rw[List.length_append,List.length_append,h.1,k.1],λi M=>?_⟩;rw[List.length_append]at M;unfold Dd;rw[List.getD_eq_getElem?_getD,List.getD_eq_getElem?_getD];rcases Nat.lt_or_ge i c.length with A | A
 .rw [List.getElem?_append_left A, List.getElem?_append_left (by rw [h.1]; exact A), <-List.getD_eq_getElem?_getD, <-List.getD_eq_getElem?_getD]
  exact h.2 i A
 .rw [List.getElem?_append_right A, List.getElem?_append_right (by rw [h.1]; exact A), <-List.getD_eq_getElem?_getD, <-List.getD_eq_getElem?_getD, h.1]
  exact k.2 _ ZbK
def fvD(f:FuncId)(R a:List D):D:=⟨λs v=>∃l r:List Value,v=.func (.func f) l.toArray r.toArray/\RelL s R l/\RelL s a r,
 λ⟨l,r,A,B,L⟩ I=>⟨l,r,A,⟨B.1,λk C=>(Dd R k).st (B.2 k C) I⟩,⟨L.1,λk C=>(Dd a k).st (L.2 k C) I⟩⟩⟩
def FnAbs(P:Program)(F:D)(A:List D)(r:D):Prop:=∃B R a,D.le F (fvD B R a)/\Abs P B (R++A++a) r
theorem FnAbs.ex(h:Abs P vb c r):FnAbs P (ex (.func (.func vb) #[] #[])) c r:=⟨vb,[],[],λs v q=>⟨[],[],q,⟨rfl,λk C=>absurd C ZbV⟩,⟨rfl,λk C=>absurd C ZbV⟩⟩,by simpa using h⟩
theorem A2Y(h:Abs P vb (c++uS++vn) r):FnAbs P (fvD vb c vn) uS r:=⟨vb,c,vn,D.le.refl _,h⟩
section
variable {P:Program} {hp:List Ow} {arg:Operand->AV} {dd:Option Tmp} {ty:TypeId} {ps:String} {af:Array Edge} {gd:Option (Nat×Bool)}
theorem JZ{F:D}(p:arg x=.d F)(I:FnAbs P F c vt)(M:ArgsLe hp arg vJ c):Quiet P hp ⟨dd,.call { callee:=.value x,args:=vJ.toArray,argTypes:=vr },ty,ps,af,gd⟩ arg (.d vt):=by
 obtain⟨Q,R,a,O,S⟩:=I;refine⟨λbase s W J H Y Z h=>?_⟩;have B:=h x ZcX;rw[p]at B;obtain⟨l,g,G,C,L⟩:=O s _ B;obtain⟨V,m⟩:=ArgsLe.rel (ev:=J) Z M λA E=>h A (by simp[Op.operands,Call.operands,E]);have z:RelL s c (vJ.map J):=⟨by simpa using V,m⟩;have d:=(C.app z).app L;have u:=S.2 s (l++vJ.map J++g) H d.1 d.2;unfold RegG.OpStep
 have k:(execOp J ⟨dd,.call { callee:=.value x,args:=vJ.toArray,argTypes:=vr },ty,ps,af,gd⟩).run P s.w=.ok (.enter Q (l++vJ.map J++g).toArray) s.w:=by
  simp[execOp,resolve,G,Deferred.ofValue,invoke,S.1]
 rw[k];exact u.mono λe N ⟨v,X,j,f,K,b⟩=>⟨v,X,j,f,K,b⟩
theorem A5W{l a:List Operand}(A:ArgsLe hp arg l c)(B:ArgsLe hp arg a vn):Quiet P hp ⟨dd,.makeFunc (.func vb) l.toArray a.toArray,ty,ps,af,gd⟩ arg (.d (fvD vb c vn)):=by
 refine⟨λbase s W C H F Z h=>?_⟩;obtain⟨L,V⟩:=ArgsLe.rel (ev:=C) Z A λx E=>h x (by simp[Op.operands,E]);obtain⟨m,z⟩:=ArgsLe.rel (ev:=C) Z B λx E=>h x (by simp[Op.operands,E]);refine BO (v:=.func (.func vb) (l.map C).toArray (a.map C).toArray) (by simp[execOp,Instr.makeFunc]) ⟨GS.Le.refl s,_,_,rfl,⟨by simpa using L,V⟩,⟨by simpa using m,z⟩⟩
theorem A5U{e n b r T len:Nat}{d:TypeDesc}(E:arg x=.d (Fb T c))(J:Tab P t (.array len e) n b z)(X:Tab P e d 1 r v)(K:Ns len c=some vn)(M:len<=1000):Quiet P hp ⟨dd,.slice t x none none none,ty,ps,af,gd⟩ arg (.d (slD T 1 (vn.map λy=>[y]))):=by
 obtain⟨R,N⟩:=Lz K;have O:vn.length=len:=by rw[R,List.length_take];omega
 subst O;refine⟨λbase s W I H l Z h=>?_⟩;have A:=h x ZcE;rw[E]at A;obtain⟨g,p,F,L⟩:=A;replace L:=L.take vn.length;rw[<-R]at L;obtain⟨a,Q,B,L⟩:=L;have F:I x=.pointer (some ⟨g,p,none⟩):=F;refine BO (v:=.slice (some ⟨g,p,none⟩) vn.length vn.length) ?_ ⟨GS.Le.refl s,?_⟩
 .simp [execOp,Instr.sliceAt,F,run_underlying J.und,Instr.sureAddr,Instr.sliceBounds,X.run_size,Addr.add_lit]
 .refine ⟨some ⟨g, p, none⟩, vn.length, by rw [List.length_map], by rw [List.length_map]; exact Nat.le_refl _, by omega, λ_=>⟨g, p, rfl, λk C=>?_⟩⟩
  rw[List.length_map]at C;have N:(vn.map λy=>[y]).getD k []=[Dd vn k]:=by simp[Dd,C]
  rw[N];refine⟨rfl,a,Q,B,λj G=>?_⟩;have G:j<1:=G;obtain rfl:j=0:=by omega
  have:=L k C;rw[Nat.mul_one,Nat.add_zero];exact this
end
section
variable {fr:List (Nat×AV)} {hp hp':List Ow}
theorem A4B(id A:Nat)(l:hp[id]? = some (.var t (c.map .d)))(E:BV fr A=some (.ptr id 0))(f:FK hp id .dead=some hp'):AS.le ⟨fr,hp⟩ ⟨(A,.d (Fb t c))::fr,hp'⟩:=by
 rw[Ey f];intro M n a w ⟨s,W,O,L⟩;obtain⟨g,B,X,q,P,S,R,o,y⟩:=L.hp id _ l;let Y:GS:=⟨λb k=>s.S b k\/b=g,s.tag,s.w⟩;have d:GS.Chg s Y:=⟨Nat.le_refl _,λ_ _ C=>.inl C,λb B t V F=>⟨B,V,F,λ_ _=>rfl⟩⟩;have Q:g<s.w.heap.size:=Bm P;have z:Y.Ok:=⟨λb k C=>C.elim (L.ok.lt b k) λh=>h▸Q,λb k T=>.inl (L.ok.safe b k T)⟩;have p:OwB s (W id) (.var t (c.map .d)) g:=by show Dg (W id)=some g;rw[X];rfl
 have H:GS.LeX M.mine M.g Y:=⟨L.le.os,L.le.tape,L.le.output,L.le.block,L.le.chg.trans d,λb k F J C=>C.elim (L.le.old b k F J) λC=>((L.own id _ b l (C▸p)).elim J λh=>absurd F ZbK).elim,L.le.tag,λ_=>z⟩
 have m:=L.upd (s':=Y) (o':=.dead) (ρ':=W) (f:=λx=>x) H z d l
  (λb _ r=>⟨rfl,λk=>⟨λC=>C.elim (λh=>h) λh=>absurd (h▸p) r,λC=>.inl C⟩⟩) (λ_ _=>rfl) trivial (λb F=>F.elim) λU v h=>h.chg d
 rw[PF,Kl]at m;have m:StI M n ⟨fr,hp.set id .dead⟩ a Y W:=m;refine⟨Y,W,O,⟨m.le,m.ok,λu U N=>?_,m.sz,m.df,m.hp,m.sep,m.own⟩⟩;rw[CD]at N;split at N
 .rename_i e
  cases N;subst e;obtain⟨_,b,G,K⟩:=L.fr A _ E;rw[X]at G;cases G;refine⟨g,0,K,B,(0,0),P,λk C=>?_⟩;have I:=y k (.d (Dd c k)) (by simp[Dd,C]);obtain⟨u,j,Z,i⟩:=I;rw[Nat.zero_add];exact⟨.inr rfl,u,j,Z,(Dd c k).st i d⟩
 .exact m.fr u U N
end
theorem CF{s0:An}{Q:Exit->AS->Prop}{Y:List (Nat×AV)}{ds:List D}(id A:Nat)(l:H[id]? = some (.var t (ds.map .d)))(E:BV Y A=some (.ptr id 0))(f:FK H id .dead=some vA)(k:AWp P s0 n vp Q ⟨(A,.d (Fb t ds))::Y,vA⟩):AWp P s0 n vp Q ⟨Y,H⟩:=HF (A4B id A l E f) k
abbrev wH(b:List Nat):List Ow:=[.var 103 [.own 1],.row 5 1 (CE b)]
def Wr(f:FuncId)(x:D)(e:List Nat):Prop:=∀b,b.length+e.length<=1000000000000->Con Tryz.prog f [.ptr 0 0,.d x] (wH b) [1] (λr u=>r=.d Cs/\u=wH (b++e))
theorem Wr.intro{f:FuncId}{x:D}{e:List Nat}(h:∀b,b.length+e.length<=1000000000000->Con Tryz.prog f [.ptr 0 0,.d x] (wH b) [1] (λr u=>r=.d Cs/\u.take 2=wH (b++e))):Wr f x e:=λb F=>(h b F).cut λr u ⟨A,B⟩=>ZaT
theorem Bp{W:Func}{Q:AV->List Ow->Prop}{E O:Ow}(p:P.funcs[vb]? = some W)(F:W.body=some vp)(B:∀u w,(callFunc vb u).run P w=.ok (.enter vb u) w)(i:Nat.ble u.length W.ntmps=true)
  (h:∀(A:An) (z Y:Value),AWp P A W.ntmps vp (FinC P W [1] [z,Y] Q) ⟨HM 0 u,[E,O,.pin [(z,.own 0)]]⟩):Con P vb u [E,O] [1] Q:=
 QM p F B i λA G q=>by
  match G,q with
  |[z,Y],_=>exact h A z Y
theorem BN{B:Option Tmp}{r:String}{f:Array Edge}{K:Option (Nat×Bool)}{id off:Nat}(E:vz x=.ptr id off):Quiet P H ⟨B,.nilCheck x,t,r,f,K⟩ vz (.ptr id off):=by
 refine⟨λbase s W h A l Z q=>?_⟩;have V:=q x ZcE;rw[E]at V;obtain⟨m,b,z,d⟩:=V;refine BO (v:=h x) ?_ ⟨GS.Le.refl s,m,b,z,d⟩;simp[execOp,d]
theorem CN(n:Nat)(i:n<18446744073709551616):Wr 120 (ex (.int .u64 (n:Nat))) (Bo n):=Wr.intro λb F=>by
 refine Bp Tryz.func120 rfl (Ag Tryz.func120 ZbM ZbM) rfl λA C I=>?_;rw[Tryz.ntmps120];refine Go ?_;refine Az (λP d=>∃r Y,P=Y/\Y<18446744073709551616/\r++Bo Y=b++Bo n/\d=⟨[(0,.ptr 0 0),(1,.d (ex (.int .u64 (Y:Nat))))],[.var 103 [.own 1],.row 5 1 (CE r),.pin [(C,.own 0)]]⟩) ?le ⟨b,n,rfl,i,rfl,rfl⟩ ?round
 case le=>exact Ad (by exact Yp<|Yd<|FrLe.nil) (by exact HpLe.cons (Af rfl)<|Yr<|HpLe.cons (Aj rfl)<|HpLe.nil)
 case round=>
  rintro Y _ ⟨r,_,rfl,E,X,rfl⟩;have B:(r++Bo Y).length=(b++Bo n).length:=by rw[X]
  rw[List.length_append,List.length_append]at B;have V:=Hp Y;by_cases h:128<=Y
  .have c:Bo Y=(Y%128+128)::Bo (Y/128):=by rw [Bo, if_neg ZbK]
   have v:Bo Y=[Y%128+128]++Bo (Y/128):=c;rw[c,List.length_cons]at B;have K:=CG r;have G:=Hp (Y/128);refine Go ?_;refine Wq (BN (ao rfl)) ?_;refine Go ?_;refine Wq (DG (r:=((Y%128+128:Nat):Int)) (ao rfl) (ao rfl) (by rw[IntKind.wrap_u8,IntKind.wrap_u8];omega)) ?_;(refine CU rfl rfl ?_;(refine Dj (Aa rfl) (Aa rfl) rfl rfl rfl rfl rfl ?_;(repeat ((first | refine⟨_,AA (ao rfl),?_⟩ | refine⟨_,Po rfl,?_⟩);refine⟨_,rfl,?_⟩));refine⟨_,rfl,?_⟩));(refine Mv (r2:=[[ex (.int .u8 ((Y%128+128:Nat):Int))]]) (ao rfl) rfl rfl (Aa rfl) (Aa rfl) rfl rfl Zdj Zdj rfl Zct rfl ?_);refine Wq (BN (ao rfl)) ?_;refine Wq AF ?_;refine FI (ao rfl) (ao rfl) rfl (Aa rfl) Zdu rfl rfl ?_;refine Go ?_;refine Wq (HZ (r:=((Y/128:Nat):Int)) (ao rfl) (ao rfl) ZbN ZcS) ?_;refine Go ?_;refine Am (Y/128) ZbK ⟨r++[Y%128+128],Y/128,rfl,by omega,by rw[List.append_assoc,<-v];exact X,rfl⟩ ?_;exact Ad (by exact Yp<|Yd<|FrLe.nil) (by refine HpLe.cons (Af rfl) ?_;(refine HpLe.cons (OwLe.row (by rw[Hy];rfl)) ?_);exact HpLe.cons (Aj rfl)<|HpLe.nil)
  .have c:Bo Y=[Y]:=by rw [Bo, if_pos ZbK]
   rw[c,List.length_cons]at B;rw[c]at X;have K:=CG r;refine Ao<|Y1<|Wm ?_;refine Wq Bl ?_;refine Y0<|Cf<|BZ<|Bz<|BP<|BE<|Yn<|AWp.region<|Wm<|Wm ?_;refine Wq (BN (ao rfl)) ?_;refine Wq AF ?_;refine Wq BT ?_;refine Wm ?_;refine Wq (AC (r:=((Y:Nat):Int)) (ao rfl) (Aa rfl) (Aa rfl) Zcv) ?_;(refine CU rfl rfl ?_;(refine Dj (Aa rfl) (Aa rfl) rfl rfl rfl rfl rfl ?_;(repeat ((first | refine⟨_,AA (ao rfl),?_⟩ | refine⟨_,Po rfl,?_⟩);refine⟨_,rfl,?_⟩));refine⟨_,rfl,?_⟩));(refine Mv (r2:=[[ex (.int .u8 ((Y:Nat):Int))]]) (ao rfl) rfl rfl (Aa rfl) (Aa rfl) rfl rfl Zdj Zdj rfl Zct rfl ?_);refine Wq (BN (ao rfl)) ?_;refine Wq AF ?_;refine FI (ao rfl) (ao rfl) rfl (Aa rfl) Zdu rfl rfl ?_;apply AWl.nil
   first | refine Be RetsA.none rfl ?_ rfl | refine AE RetsA.none rfl ?_ rfl
   exact⟨rfl,by rw[<-X,wH,Hy];rfl⟩
def IW(z:Int):Prop:=-9223372036854775808<=z/\z<=9223372036854775807
structure TW(t:RTm):Prop where
 n:SmW t.l
 d:SmW t.l'
abbrev ED{F:Type}(D:F->Prop)(l:List F):Prop:=∀x∈l,D x
abbrev PoW:List RTm->Prop:=ED TW
abbrev PsW:List (List RTm)->Prop:=ED PoW
abbrev TaW:List (List (List RTm))->Prop:=ED PsW
def GI{F:Type}(D:F->Prop)(f:Nat->F):Prop:=∀i,i<8->D (f i)
theorem Cd[Inhabited e]{l:List e}{k:Nat}(h:k<l.length):l.getD k default∈l:=by
 exact Zfz
theorem BS{F:Type}[Inhabited F](e:F->List Nat){l:List F}{k:Nat}(h:k<l.length):(l.take (k+1)).flatMap e=(l.take k).flatMap e++e (l.getD k default):=by
 rw[List.take_add_one,List.getElem?_eq_getElem h,List.flatMap_append,List.getD_eq_getElem?_getD,List.getElem?_eq_getElem h];simp
theorem CJ{F:Type}[Inhabited F](e:F->List Nat){l:List F}{k:Nat}(h:k<l.length):((l.take k).flatMap e).length+(e (l.getD k default)).length<=(l.flatMap e).length:=by
 have A:l.flatMap e=(l.take (k+1)).flatMap e++(l.drop (k+1)).flatMap e:=by rw[<-List.flatMap_append,List.take_append_drop]
 rw[A,BS e h,List.length_append,List.length_append];omega
def CX{F:Type}(e:F->List Nat)(f:Nat->F)(k:Nat):List Nat:=(List.range k).flatMap λi=>e (f i)
theorem DI{F:Type}(e:F->List Nat)(f:Nat->F)(k:Nat):CX e f (k+1)=CX e f k++e (f k):=by simp[CX,List.range_succ]
theorem Fh{F:Type}(e:F->List Nat)(f:Nat->F){k:Nat}:∀{n:Nat},k<n->(CX e f k).length+(e (f k)).length<=(CX e f n).length
 |n+1,h=>by
  rw[DI,List.length_append];by_cases C:k=n
  .subst C
   exact Nat.le_refl _
  .have:=Fh e f (n:=n) (show k<n by omega)
   omega
theorem LQ(h:f=l++vo):CE l++CE vo=CE f:=by rw[h,Hy]
theorem Eg{w n m:Nat}(h:2^n=m):((w:Int)).fdiv (2^n)=((w/m:Nat):Int):=by
 subst h;rw[Int.fdiv_eq_ediv_of_nonneg _ (by have:(0:Int)<2^n:=Int.pow_pos ZbK;omega)]
 norm_cast
theorem ER(z:Int)(E:IW z):Wr 54 (ex (.int .i64 z)) (Bc z):=Wr.intro λb F=>by
 obtain⟨A,B⟩:=E;by_cases h:0<=z
 .have e:Bc z=Bo (2*z.toNat):=by rw [Bc, UC, if_neg ZbK]
  rw[e]at F ⊢;have I:=CN (2*z.toNat) ZbK b F;refine Bp Tryz.func54 rfl (Ag Tryz.func54 ZbM ZbM) rfl λC r G=>?_;rw[Tryz.ntmps54];refine Y1<|Wm ?_;refine Wq Bj ?_;refine Y0<|Ct<|AWp.region<|Wm<|Wm ?_;refine Wq (AC (r:=((z.toNat:Nat):Int)) (ao rfl) (Aa rfl) (Aa rfl) ZcQ) ?_;refine Wq (IY (r:=((2*z.toNat:Nat):Int)) (ao rfl) (ao rfl) ZcQ) ?_
  exact ZaU
 .have e:Bc z=Bo (2*(-(z+1)).toNat+1):=by rw [Bc, UC, if_pos ZbK]
  rw[e]at F ⊢;have I:=CN (2*(-(z+1)).toNat+1) ZbK b F;refine Bp Tryz.func54 rfl (Ag Tryz.func54 ZbM ZbM) rfl λC r G=>?_;rw[Tryz.ntmps54];refine Y1<|Wm ?_;refine Wq Bl ?_;refine Y0<|Cf<|AWp.region<|Wm<|Wm ?_;refine Wq Tw ?_;refine Wq Xs ?_;refine Wq (AC (r:=(((-(z+1)).toNat:Nat):Int)) (ao rfl) (Aa rfl) (Aa rfl) ZcQ) ?_;refine Wq (IY (r:=((2*(-(z+1)).toNat:Nat):Int)) (ao rfl) (ao rfl) ZcQ) ?_;refine Wq (DG (r:=((2*(-(z+1)).toNat+1:Nat):Int)) (ao rfl) (ao rfl) ZcQ) ?_
  exact ZaU
theorem PM(s:Bool)(l:List Nat)(K:SmW l):Wr 281 (AJ [ex (.bool s),wD l]) (GF s l):=Wr.intro λb F=>by
 have W:∀k,k<l.length->l.getD k 0<4294967296:=λk C=>K.1 _ (Cd C);have n:=K.2;have S:(GF s l).length=(Bo (2*l.length+(if s=true then 1 else 0))).length+(l.flatMap Cm).length:=by rw[GF,List.length_append]
 have f:2*l.length+(if s=true then 1 else 0)<18446744073709551616:=by split<;>omega
 obtain⟨N,X⟩:∃N,N=2*l.length+(if s=true then 1 else 0):=⟨_,rfl⟩;have i:GF s l=Bo N++l.flatMap Cm:=by rw[X];rfl
 rw[<-X]at f S;have I:=CN N f b ZbK;refine Bp Tryz.func281 rfl (Ag Tryz.func281 ZbM ZbM) rfl λA r B=>?_;rw[Tryz.ntmps281];apply Y1;refine Bx ?_;refine Y0<|Y1 ?_;refine Wq AF ?_;refine Wq AL ?_;refine Wq OB ?_;refine Wq (AC (r:=((l.length:Nat):Int)) (ao rfl) (Aa rfl) (Aa rfl) (Ec ZbK)) ?_;refine Wq (IY (r:=((2*l.length:Nat):Int)) (ao rfl) (ao rfl) ZcQ) ?_;refine Wa<|Y0<|Ao<|Y1 ?_;refine Wq AF ?_;refine Wq AL ?_;apply Y0
 cases s
 .have Y:N=2*l.length:=by rw [X];simp
  refine Go ?_;refine AD [0,1] [] [] (Zep) ZbF rfl rfl ZbH ZbG ZbN ZbE ZbJ trivial rfl ?_;rintro _ _ ⟨rfl,rfl⟩;refine Zfp ?_;refine Az (λP d=>∃k,k<=l.length/\P=l.length-k/\d=⟨[(0,.ptr 0 0),(20,.d (wD l)),(21,.d (ex (.int .i64 (l.length:Nat)))),(22,.d (ex (.int .i64 (k:Nat))))],[.var 103 [.own 1],.row 5 1 (CE (b++Bo N++(l.take k).flatMap Cm)),.pin [(r,.own 0)]]⟩) ?le ⟨0,by omega,rfl,rfl⟩ ?round
  case le=>exact Ad Zee Zdp
  case round=>
   exact ZaV
 .have Y:N=2*l.length+1:=by rw [X];simp
  refine Go ?_;refine Wq (DG (r:=((2*l.length+1:Nat):Int)) (ao rfl) (ao rfl) ZcQ) ?_;refine Go ?_;refine AD [0,1] [] [] (Zep) ZbF rfl rfl ZbH ZbG ZbN ZbE ZbJ trivial rfl ?_;rintro _ _ ⟨rfl,rfl⟩;refine Zfp ?_;refine Az (λP d=>∃k,k<=l.length/\P=l.length-k/\d=⟨[(0,.ptr 0 0),(20,.d (wD l)),(21,.d (ex (.int .i64 (l.length:Nat)))),(22,.d (ex (.int .i64 (k:Nat))))],[.var 103 [.own 1],.row 5 1 (CE (b++Bo N++(l.take k).flatMap Cm)),.pin [(r,.own 0)]]⟩) ?le ⟨0,by omega,rfl,rfl⟩ ?round
  case le=>exact Ad Zee Zdp
  case round=>
   exact ZaV
def Wl(f n:FuncId)(x:D)(e:List Nat):Prop:=∀b,b.length+e.length<=1000000000000->Con Tryz.prog f [.ptr 0 0,.d x,.fn (n+1000000) [0]] (wH b) [1] (λr u=>r=.d Cs/\u=wH (b++e))
theorem Wl.intro{f n:FuncId}{x:D}{e:List Nat}(h:∀b,b.length+e.length<=1000000000000->Con Tryz.prog f [.ptr 0 0,.d x,.fn (n+1000000) [0]] (wH b) [1] (λr u=>r=.d Cs/\u.take 2=wH (b++e))):Wl f n x e:=λb F=>(h b F).cut λr u ⟨A,B⟩=>ZaT
def VW(a:RQ×RQ):Prop:=QB a.1/\QB a.2
def SqW(s:RQ×List RTm):Prop:=QB s.1/\PoW s.2
structure CoW(k:Cor):Prop where
 n:IW k.n
 e:PsW k.e
 f:PsW k.f
structure ClW(c:Clm):Prop where
 kind:IW c.kind
 p:PoW c.p
 n:IW c.n
 d:IW c.d
 r:IW c.r
 o:ED (GI IW) c.o
 l:PsW c.l
 s:ED IW c.s
 b:ED (GI VW) c.b
structure RsW(r:Rsl):Prop where
 l:GI IW r.l
 q:ED QB r.q
 r:GI (ED QB) r.r
structure CrW(e:Crt):Prop where
 n:IW e.n
 cof:PsW e.cof
 g:PsW e.g
 o:ED (GI IW) e.o
 c:TaW e.c
 q:TaW e.q
 s:TaW e.s
 r:RsW e.r
 a:ED VW e.a
 sq:ED SqW e.sq
 x:ED (GI QB) e.x
 b:ED (GI VW) e.b
structure FW(f:Fct):Prop where
 k:CoW f.k
 c:ClW f.c
 e:CrW f.e
theorem Ub(z:Int):IntKind.u64.wrap z=((u64 z:Nat):Int):=by
 rw[IntKind.wrap_u64];unfold u64;omega
theorem Fp(q:RQ)(w:QB q):Wr 220 (AJ (Ih q)) (CA q):=Wr.intro λb F=>by
 simp only[CA,List.length_append]at F;have g:=PM q.b q.l w.n (b) ZbP;have A:=PM q.b' q.l' w.d (b++GF q.b q.l) ZbP;refine Bp Tryz.func220 rfl (Ag Tryz.func220 ZbM ZbM) rfl λB r I=>?_;rw[Tryz.ntmps220];refine Zfk ?_;rintro _ _ ⟨rfl,rfl⟩;refine Kr ?_;refine Zfm ?_;rintro _ _ ⟨rfl,rfl⟩;refine ZgV ?_
 first | refine Be RetsA.none rfl ?_ rfl | refine AE RetsA.none rfl ?_ rfl
 exact ZiY
theorem NC(a:RQ×RQ)(s:VW a):Wr 209 (AJ (Lw a)) (FX a):=Wr.intro λb F=>by
 simp only[FX,List.length_append]at F;have g:=Fp a.1 s.1 (b) ZbP;have A:=Fp a.2 s.2 (b++CA a.1) ZbP;refine Bp Tryz.func209 rfl (Ag Tryz.func209 ZbM ZbM) rfl λB r I=>?_;rw[Tryz.ntmps209];refine Zfk ?_;rintro _ _ ⟨rfl,rfl⟩;refine Kr ?_;refine Zfm ?_;rintro _ _ ⟨rfl,rfl⟩;refine ZgV ?_
 first | refine Be RetsA.none rfl ?_ rfl | refine AE RetsA.none rfl ?_ rfl
 exact⟨rfl,by simp only[FX,List.append_assoc];rfl⟩
theorem Px(a:Nat->Int)(s:GI IW a):Wr 124 (AJ (Co a)) (FL a):=Wr.intro λb F=>by
 have S:FL a=CX (Bc) a 8:=rfl;rw[S]at F ⊢;refine Bp Tryz.func124 rfl (Ag Tryz.func124 ZbM ZbM) rfl λA r B=>?_;rw[Tryz.ntmps124];refine Go ?_;refine Az (λP d=>∃k,k<=8/\P=8-k/\d=⟨[(0,.ptr 0 0),(6,.d (AJ (Co a))),(7,.d (ex (.int .i64 (k:Nat))))],[.var 103 [.own 1],.row 5 1 (CE (b++CX (Bc) a k)),.pin [(r,.own 0)]]⟩) ?le ⟨0,by omega,rfl,rfl⟩ ?round
 case le=>exact Ad Zcm Zco
 case round=>
  rintro P _ ⟨k,C,rfl,rfl⟩;by_cases Q:k<8
  .have C:=Fh (Bc) a Q
   have I:=ER (a k) (s k Q) (b++CX (Bc) a k) ZbP;apply Y1;refine Wq Bj ?_;refine Y0<|Ao<|Ct<|Ys<|Ao<|AWp.block<|Y1 ?_;refine Wq (KC (ao rfl) (ao rfl) (Aa rfl) (Aa rfl) rfl Q (CellAt.mon Q)) ?_;refine Wa<|Y0<|AWp.region<|Wm<|Wm ?_
   exact Zhu
  .exact ZaW
theorem A5N(f:Nat->RQ×RQ)(p:GI VW f):Wr 272 (AJ (DH f)) (GU f):=Wr.intro λb F=>by
 have S:GU f=CX (FX) f 8:=rfl;rw[S]at F ⊢;refine Bp Tryz.func272 rfl (Ag Tryz.func272 ZbM ZbM) rfl λA r B=>?_;rw[Tryz.ntmps272];refine Go ?_;refine Az (λP d=>∃k,k<=8/\P=8-k/\d=⟨[(0,.ptr 0 0),(6,.d (AJ (DH f))),(7,.d (ex (.int .i64 (k:Nat))))],[.var 103 [.own 1],.row 5 1 (CE (b++CX (FX) f k)),.pin [(r,.own 0)]]⟩) ?le ⟨0,by omega,rfl,rfl⟩ ?round
 case le=>exact Ad Zcm Zco
 case round=>
  rintro P _ ⟨k,C,rfl,rfl⟩;by_cases Q:k<8
  .have C:=Fh (FX) f Q
   have I:=NC (f k) (p k Q) (b++CX (FX) f k) ZbP;refine Go ?_;refine ZhS ?_;exact Zht
  .exact ZaW
theorem A1t(f:Nat->RQ)(p:GI QB f):Wr 213 (AJ (Pq f)) (Om f):=Wr.intro λb F=>by
 have S:Om f=CX (CA) f 8:=rfl;rw[S]at F ⊢;refine Bp Tryz.func213 rfl (Ag Tryz.func213 ZbM ZbM) rfl λA r B=>?_;rw[Tryz.ntmps213];refine Go ?_;refine Az (λP d=>∃k,k<=8/\P=8-k/\d=⟨[(0,.ptr 0 0),(6,.d (AJ (Pq f))),(7,.d (ex (.int .i64 (k:Nat))))],[.var 103 [.own 1],.row 5 1 (CE (b++CX (CA) f k)),.pin [(r,.own 0)]]⟩) ?le ⟨0,by omega,rfl,rfl⟩ ?round
 case le=>exact Ad Zcm Zco
 case round=>
  rintro P _ ⟨k,C,rfl,rfl⟩;by_cases Q:k<8
  .have C:=Fh (CA) f Q
   have I:=Fp (f k) (p k Q) (b++CX (CA) f k) ZbP;refine Go ?_;refine ZhS ?_;exact Zht
  .exact ZaW
theorem A3f(t:RTm)(J:TW t):Wr 122 (AJ (rtC t)) (Ex t):=Wr.intro λb F=>by
 have S:Ex t=CA ⟨t.b,t.l,t.b',t.l'⟩++CX (λz=>Bo (u64 z)) t.m 8:=rfl;rw[S]at F ⊢;simp only[List.length_append]at F;have g:=Fp ⟨t.b,t.l,t.b',t.l'⟩ ⟨J.n,J.d⟩ b ZbK;refine Bp Tryz.func122 rfl (Ag Tryz.func122 ZbM ZbM) rfl λA r B=>?_;rw[Tryz.ntmps122];refine Zfk ?_;rintro _ _ ⟨rfl,rfl⟩;refine Zfp ?_;refine Az (λP d=>∃k,k<=8/\P=8-k/\d=⟨[(0,.ptr 0 0),(11,.d (AJ (Co t.m))),(12,.d (ex (.int .i64 (k:Nat))))],[.var 103 [.own 1],.row 5 1 (CE (b++CA ⟨t.b,t.l,t.b',t.l'⟩++CX (λz=>Bo (u64 z)) t.m k)),.pin [(r,.own 0)]]⟩) ?le ⟨0,by omega,rfl,rfl⟩ ?round
 case le=>exact Ad Zcm Zco
 case round=>
  rintro P _ ⟨k,C,rfl,rfl⟩;by_cases Q:k<8
  .have C:=Fh (λz=>Bo (u64 z)) t.m Q
   have I:=CN (u64 (t.m k)) (by unfold u64;omega) (b++CA ⟨t.b,t.l,t.b',t.l'⟩++CX (λz=>Bo (u64 z)) t.m k) ZbP;apply Y1;refine Wq Bj ?_;refine Y0<|Ao<|Ct<|Ys<|Ao<|AWp.block<|Y1 ?_;refine Wq (KC (ao rfl) (ao rfl) (Aa rfl) (Aa rfl) rfl Q (CellAt.mon Q)) ?_;refine Wa<|Y0<|AWp.region<|Wm<|Wm ?_;refine Wq (AC (r:=((u64 (t.m k):Nat):Int)) (ao rfl) (Aa rfl) (Aa rfl) (Ub (t.m k))) ?_
   exact Zhu
  .obtain rfl:k=8:=by omega
   refine Go ?_
   first | refine Be RetsA.none rfl ?_ rfl | refine AE RetsA.none rfl ?_ rfl
   exact⟨rfl,by rw[List.append_assoc];rfl⟩
theorem A4T(L:List (RTm))(T:ED TW L):Wl 121 122 (Jh L) (Bn Ex L):=Wl.intro λb F=>by
 have i:=CO (e:=Ex) (l:=L) λx _=>OS x;have S:(Bn Ex L).length=(Bo L.length).length+(L.flatMap Ex).length:=ZiZ
 rw[S]at F;have g:=CN L.length ZbK b ZbK;refine Bp Tryz.func121 rfl (Ag Tryz.func121 ZbM ZbM) rfl λA r B=>?_;rw[Tryz.ntmps121];refine Y1<|Wm<|Wm ?_;refine Wq (Bi rfl (Aa rfl)) ?_;refine Wq (AC (r:=((L.length:Nat):Int)) (ao rfl) (Aa rfl) (Aa rfl) (Ec ZbK)) ?_
 refine AD [0,1] [] [] (g) ZbF rfl rfl ZbH ZbG ZbN ZbE ZbJ trivial rfl ?_;rintro _ _ ⟨rfl,rfl⟩;refine Kr ?_;refine Y0<|Y1<|Wm ?_;refine Wq (Bi rfl (Aa rfl)) ?_;refine Wm<|Y0<|AWp.block ?_
 refine Az (λP d=>∃k,k<=L.length/\P=L.length-k/\d=⟨[(0,.ptr 0 0),(2,.fn (122+1000000) [0]),(13,.d (Jh L)),(14,.d (ex (.int .i64 (L.length:Nat)))),(15,.d (ex (.int .i64 (k:Nat))))],[.var 103 [.own 1],.row 5 1 (CE (b++Bo L.length++(L.take k).flatMap Ex)),.pin [(r,.own 0)]]⟩) ?le ⟨0,by omega,rfl,rfl⟩ ?round
 case le=>exact Zja
 case round=>
  rintro P _ ⟨k,C,rfl,rfl⟩;by_cases Q:k<L.length
  .have C:=CJ Ex Q
   have I:=A3f (L.getD k default) (T _ (Cd Q)) (b++Bo L.length++(L.take k).flatMap Ex) ZbY;apply Y1;refine Wq Bj ?_;refine Y0<|Ao<|Ct<|Ys<|Ao<|AWp.block<|Y1 ?_;refine Wq (Ck (k:=k) rfl (ao rfl) (Aa rfl) (Aa rfl) rfl Q) ?_;refine Wq Cp ?_;refine Al ?_;refine Sf ?_;refine Y0<|AWp.region<|Wm ?_;refine Wq Bd ?_
   refine AD [0,1] [0] [] (I) ZbF rfl rfl ZbH ZbG ZbN ZbE ZbJ trivial rfl ?_;rintro _ _ ⟨rfl,rfl⟩;refine ZfY ?_;exact Ad ZbW (by exact HpLe.cons (Af rfl)<|HpLe.cons (OwLe.row (by rw[BS Ex Q,<-List.append_assoc]))<|HpLe.cons (Aj rfl)<|HpLe.nil)
  .exact ZaX
theorem On(l:List (RTm))(K:ED TW l):Wr 55 (Jh l) (Cr l):=Wr.intro λb F=>by
 have I:=A4T l K b F;refine Bp Tryz.func55 rfl (Ag Tryz.func55 ZbM ZbM) rfl λA r B=>?_;rw[Tryz.ntmps55];refine Go ?_;refine Zfo ?_;rintro _ _ ⟨rfl,rfl⟩;refine ZgV ?_
 exact ZbC
theorem A4U(L:List (List RTm))(T:ED PoW L):Wl 219 55 (Ip L) (Bn Cr L):=Wl.intro λb F=>by
 have i:=CO (e:=Cr) (l:=L) λx _=>Iv _ _;have S:(Bn Cr L).length=(Bo L.length).length+(L.flatMap Cr).length:=ZiZ
 rw[S]at F;have g:=CN L.length ZbK b ZbK;refine Bp Tryz.func219 rfl (Ag Tryz.func219 ZbM ZbM) rfl λA r B=>?_;rw[Tryz.ntmps219];refine Y1<|Wm<|Wm ?_;refine Wq (Bi rfl (Aa rfl)) ?_;refine Wq (AC (r:=((L.length:Nat):Int)) (ao rfl) (Aa rfl) (Aa rfl) (Ec ZbK)) ?_
 refine AD [0,1] [] [] (g) ZbF rfl rfl ZbH ZbG ZbN ZbE ZbJ trivial rfl ?_;rintro _ _ ⟨rfl,rfl⟩;refine Kr ?_;refine Y0<|Y1<|Wm ?_;refine Wq (Bi rfl (Aa rfl)) ?_;refine Wm<|Y0<|AWp.block ?_
 refine Az (λP d=>∃k,k<=L.length/\P=L.length-k/\d=⟨[(0,.ptr 0 0),(2,.fn (55+1000000) [0]),(13,.d (Ip L)),(14,.d (ex (.int .i64 (L.length:Nat)))),(15,.d (ex (.int .i64 (k:Nat))))],[.var 103 [.own 1],.row 5 1 (CE (b++Bo L.length++(L.take k).flatMap Cr)),.pin [(r,.own 0)]]⟩) ?le ⟨0,by omega,rfl,rfl⟩ ?round
 case le=>exact Zja
 case round=>
  rintro P _ ⟨k,C,rfl,rfl⟩;by_cases Q:k<L.length
  .have C:=CJ Cr Q
   have I:=On (L.getD k default) (T _ (Cd Q)) (b++Bo L.length++(L.take k).flatMap Cr) ZbY;apply Y1;refine Wq Bj ?_;refine Y0<|Ao<|Ct<|Ys<|Ao<|AWp.block<|Y1 ?_;refine Wq (Ck (k:=k) rfl (ao rfl) (Aa rfl) (Aa rfl) rfl Q) ?_;refine Wq AO ?_;refine Wa<|Y0<|AWp.region<|Wm<|Wm ?_
   refine AD [0,1] [0] [] (I) ZbF rfl rfl ZbH ZbG ZbN ZbE ZbJ trivial rfl ?_;rintro _ _ ⟨rfl,rfl⟩;refine ZfY ?_;exact Ad ZbW (by exact HpLe.cons (Af rfl)<|HpLe.cons (OwLe.row (by rw[BS Cr Q,<-List.append_assoc]))<|HpLe.cons (Aj rfl)<|HpLe.nil)
  .exact ZaX
theorem Iq(l:List (List RTm))(K:ED PoW l):Wr 119 (Ip l) (AN l):=Wr.intro λb F=>by
 have I:=A4U l K b F;refine Bp Tryz.func119 rfl (Ag Tryz.func119 ZbM ZbM) rfl λA r B=>?_;rw[Tryz.ntmps119];refine Go ?_;refine Zfo ?_;rintro _ _ ⟨rfl,rfl⟩;refine ZgV ?_
 exact ZbC
theorem A3e(L:List (List (List RTm)))(T:ED PsW L):Wl 273 119 (Wc L) (Bn AN L):=Wl.intro λb F=>by
 have i:=CO (e:=AN) (l:=L) λx _=>Iv _ _;have S:(Bn AN L).length=(Bo L.length).length+(L.flatMap AN).length:=ZiZ
 rw[S]at F;have g:=CN L.length ZbK b ZbK;refine Bp Tryz.func273 rfl (Ag Tryz.func273 ZbM ZbM) rfl λA r B=>?_;rw[Tryz.ntmps273];refine Y1<|Wm<|Wm ?_;refine Wq (Bi rfl (Aa rfl)) ?_;refine Wq (AC (r:=((L.length:Nat):Int)) (ao rfl) (Aa rfl) (Aa rfl) (Ec ZbK)) ?_
 refine AD [0,1] [] [] (g) ZbF rfl rfl ZbH ZbG ZbN ZbE ZbJ trivial rfl ?_;rintro _ _ ⟨rfl,rfl⟩;refine Kr ?_;refine Y0<|Y1<|Wm ?_;refine Wq (Bi rfl (Aa rfl)) ?_;refine Wm<|Y0<|AWp.block ?_
 refine Az (λP d=>∃k,k<=L.length/\P=L.length-k/\d=⟨[(0,.ptr 0 0),(2,.fn (119+1000000) [0]),(13,.d (Wc L)),(14,.d (ex (.int .i64 (L.length:Nat)))),(15,.d (ex (.int .i64 (k:Nat))))],[.var 103 [.own 1],.row 5 1 (CE (b++Bo L.length++(L.take k).flatMap AN)),.pin [(r,.own 0)]]⟩) ?le ⟨0,by omega,rfl,rfl⟩ ?round
 case le=>exact Zja
 case round=>
  rintro P _ ⟨k,C,rfl,rfl⟩;by_cases Q:k<L.length
  .have C:=CJ AN Q
   have I:=Iq (L.getD k default) (T _ (Cd Q)) (b++Bo L.length++(L.take k).flatMap AN) ZbY;apply Y1;refine Wq Bj ?_;refine Y0<|Ao<|Ct<|Ys<|Ao<|AWp.block<|Y1 ?_;refine Wq (Ck (k:=k) rfl (ao rfl) (Aa rfl) (Aa rfl) rfl Q) ?_;refine Wq AO ?_;refine Wa<|Y0<|AWp.region<|Wm<|Wm ?_
   refine AD [0,1] [0] [] (I) ZbF rfl rfl ZbH ZbG ZbN ZbE ZbJ trivial rfl ?_;rintro _ _ ⟨rfl,rfl⟩;refine ZfY ?_;exact Ad ZbW (by exact HpLe.cons (Af rfl)<|HpLe.cons (OwLe.row (by rw[BS AN Q,<-List.append_assoc]))<|HpLe.cons (Aj rfl)<|HpLe.nil)
  .exact ZaX
theorem MA(l:List (List (List RTm)))(K:ED PsW l):Wr 206 (Wc l) (BC l):=Wr.intro λb F=>by
 have I:=A3e l K b F;refine Bp Tryz.func206 rfl (Ag Tryz.func206 ZbM ZbM) rfl λA r B=>?_;rw[Tryz.ntmps206];refine Go ?_;refine Zfo ?_;rintro _ _ ⟨rfl,rfl⟩;refine ZgV ?_
 exact ZbC
theorem A6s(L:List (RQ))(T:ED QB L):Wl 308 220 (KG L) (Bn CA L):=Wl.intro λb F=>by
 have i:=CO (e:=CA) (l:=L) λx _=>HL x;have S:(Bn CA L).length=(Bo L.length).length+(L.flatMap CA).length:=ZiZ
 rw[S]at F;have g:=CN L.length ZbK b ZbK;refine Bp Tryz.func308 rfl (Ag Tryz.func308 ZbM ZbM) rfl λA r B=>?_;rw[Tryz.ntmps308];refine Y1<|Wm<|Wm ?_;refine Wq (Bi rfl (Aa rfl)) ?_;refine Wq (AC (r:=((L.length:Nat):Int)) (ao rfl) (Aa rfl) (Aa rfl) (Ec ZbK)) ?_
 refine AD [0,1] [] [] (g) ZbF rfl rfl ZbH ZbG ZbN ZbE ZbJ trivial rfl ?_;rintro _ _ ⟨rfl,rfl⟩;refine Kr ?_;refine Y0<|Y1<|Wm ?_;refine Wq (Bi rfl (Aa rfl)) ?_;refine Wm<|Y0<|AWp.block ?_
 refine Az (λP d=>∃k,k<=L.length/\P=L.length-k/\d=⟨[(0,.ptr 0 0),(2,.fn (220+1000000) [0]),(13,.d (KG L)),(14,.d (ex (.int .i64 (L.length:Nat)))),(15,.d (ex (.int .i64 (k:Nat))))],[.var 103 [.own 1],.row 5 1 (CE (b++Bo L.length++(L.take k).flatMap CA)),.pin [(r,.own 0)]]⟩) ?le ⟨0,by omega,rfl,rfl⟩ ?round
 case le=>exact Zja
 case round=>
  rintro P _ ⟨k,C,rfl,rfl⟩;by_cases Q:k<L.length
  .have C:=CJ CA Q
   have I:=Fp (L.getD k default) (T _ (Cd Q)) (b++Bo L.length++(L.take k).flatMap CA) ZbY;apply Y1;refine Wq Bj ?_;refine Y0<|Ao<|Ct<|Ys<|Ao<|AWp.block<|Y1 ?_;refine Wq (Ck (k:=k) rfl (ao rfl) (Aa rfl) (Aa rfl) rfl Q) ?_;refine Wq Cp ?_;refine Al ?_;refine Sf ?_;refine Y0<|AWp.region<|Wm ?_;refine Wq Bd ?_
   refine AD [0,1] [0] [] (I) ZbF rfl rfl ZbH ZbG ZbN ZbE ZbJ trivial rfl ?_;rintro _ _ ⟨rfl,rfl⟩;refine ZfY ?_;exact Ad ZbW (by exact HpLe.cons (Af rfl)<|HpLe.cons (OwLe.row (by rw[BS CA Q,<-List.append_assoc]))<|HpLe.cons (Aj rfl)<|HpLe.nil)
  .exact ZaX
theorem KK(l:List (RQ))(K:ED QB l):Wr 274 (KG l) (FJ l):=Wr.intro λb F=>by
 have I:=A6s l K b F;refine Bp Tryz.func274 rfl (Ag Tryz.func274 ZbM ZbM) rfl λA r B=>?_;rw[Tryz.ntmps274];refine Go ?_;refine Zfo ?_;rintro _ _ ⟨rfl,rfl⟩;refine ZgV ?_
 exact ZbC
theorem A6r(L:List (Nat->Int))(T:ED (GI IW) L):Wl 123 124 (DW L) (Bn FL L):=Wl.intro λb F=>by
 have i:=CO (e:=FL) (l:=L) λx _=>GQ Kj x;have S:(Bn FL L).length=(Bo L.length).length+(L.flatMap FL).length:=ZiZ
 rw[S]at F;have g:=CN L.length ZbK b ZbK;refine Bp Tryz.func123 rfl (Ag Tryz.func123 ZbM ZbM) rfl λA r B=>?_;rw[Tryz.ntmps123];refine Y1<|Wm<|Wm ?_;refine Wq (Bi rfl (Aa rfl)) ?_;refine Wq (AC (r:=((L.length:Nat):Int)) (ao rfl) (Aa rfl) (Aa rfl) (Ec ZbK)) ?_
 refine AD [0,1] [] [] (g) ZbF rfl rfl ZbH ZbG ZbN ZbE ZbJ trivial rfl ?_;rintro _ _ ⟨rfl,rfl⟩;refine Kr ?_;refine Y0<|Y1<|Wm ?_;refine Wq (Bi rfl (Aa rfl)) ?_;refine Wm<|Y0<|AWp.block ?_
 refine Az (λP d=>∃k,k<=L.length/\P=L.length-k/\d=⟨[(0,.ptr 0 0),(2,.fn (124+1000000) [0]),(13,.d (DW L)),(14,.d (ex (.int .i64 (L.length:Nat)))),(15,.d (ex (.int .i64 (k:Nat))))],[.var 103 [.own 1],.row 5 1 (CE (b++Bo L.length++(L.take k).flatMap FL)),.pin [(r,.own 0)]]⟩) ?le ⟨0,by omega,rfl,rfl⟩ ?round
 case le=>exact Zja
 case round=>
  rintro P _ ⟨k,C,rfl,rfl⟩;by_cases Q:k<L.length
  .have C:=CJ FL Q
   have I:=Px (L.getD k default) (T _ (Cd Q)) (b++Bo L.length++(L.take k).flatMap FL) ZbY;apply Y1;refine Wq Bj ?_;refine Y0<|Ao<|Ct<|Ys<|Ao<|AWp.block<|Y1 ?_;refine Wq (Ck (k:=k) rfl (ao rfl) (Aa rfl) (Aa rfl) rfl Q) ?_;refine Wq Cp ?_;refine Al ?_;refine Sf ?_;refine Y0<|AWp.region<|Wm ?_;refine Wq Bd ?_
   refine AD [0,1] [0] [] (I) ZbF rfl rfl ZbH ZbG ZbN ZbE ZbJ trivial rfl ?_;rintro _ _ ⟨rfl,rfl⟩;refine ZfY ?_;exact Ad ZbW (by exact HpLe.cons (Af rfl)<|HpLe.cons (OwLe.row (by rw[BS FL Q,<-List.append_assoc]))<|HpLe.cons (Aj rfl)<|HpLe.nil)
  .exact ZaX
theorem Pt(l:List (Nat->Int))(K:ED (GI IW) l):Wr 56 (DW l) (Cg l):=Wr.intro λb F=>by
 have I:=A6r l K b F;refine Bp Tryz.func56 rfl (Ag Tryz.func56 ZbM ZbM) rfl λA r B=>?_;rw[Tryz.ntmps56];refine Go ?_;refine Zfo ?_;rintro _ _ ⟨rfl,rfl⟩;refine ZgV ?_
 exact ZbC
theorem A6u(L:List (Nat->RQ×RQ))(T:ED (GI VW) L):Wl 271 272 (Gy L) (Bn GU L):=Wl.intro λb F=>by
 have i:=CO (e:=GU) (l:=L) λx _=>GQ MT x;have S:(Bn GU L).length=(Bo L.length).length+(L.flatMap GU).length:=ZiZ
 rw[S]at F;have g:=CN L.length ZbK b ZbK;refine Bp Tryz.func271 rfl (Ag Tryz.func271 ZbM ZbM) rfl λA r B=>?_;rw[Tryz.ntmps271];refine Y1<|Wm<|Wm ?_;refine Wq (Bi rfl (Aa rfl)) ?_;refine Wq (AC (r:=((L.length:Nat):Int)) (ao rfl) (Aa rfl) (Aa rfl) (Ec ZbK)) ?_
 refine AD [0,1] [] [] (g) ZbF rfl rfl ZbH ZbG ZbN ZbE ZbJ trivial rfl ?_;rintro _ _ ⟨rfl,rfl⟩;refine Kr ?_;refine Y0<|Y1<|Wm ?_;refine Wq (Bi rfl (Aa rfl)) ?_;refine Wm<|Y0<|AWp.block ?_
 refine Az (λP d=>∃k,k<=L.length/\P=L.length-k/\d=⟨[(0,.ptr 0 0),(2,.fn (272+1000000) [0]),(13,.d (Gy L)),(14,.d (ex (.int .i64 (L.length:Nat)))),(15,.d (ex (.int .i64 (k:Nat))))],[.var 103 [.own 1],.row 5 1 (CE (b++Bo L.length++(L.take k).flatMap GU)),.pin [(r,.own 0)]]⟩) ?le ⟨0,by omega,rfl,rfl⟩ ?round
 case le=>exact Zja
 case round=>
  rintro P _ ⟨k,C,rfl,rfl⟩;by_cases Q:k<L.length
  .have C:=CJ GU Q
   have I:=A5N (L.getD k default) (T _ (Cd Q)) (b++Bo L.length++(L.take k).flatMap GU) ZbY;apply Y1;refine Wq Bj ?_;refine Y0<|Ao<|Ct<|Ys<|Ao<|AWp.block<|Y1 ?_;refine Wq (Ck (k:=k) rfl (ao rfl) (Aa rfl) (Aa rfl) rfl Q) ?_;refine Wq Cp ?_;refine Al ?_;refine Sf ?_;refine Y0<|AWp.region<|Wm ?_;refine Wq Bd ?_
   refine AD [0,1] [0] [] (I) ZbF rfl rfl ZbH ZbG ZbN ZbE ZbJ trivial rfl ?_;rintro _ _ ⟨rfl,rfl⟩;refine ZfY ?_;exact Ad ZbW (by exact HpLe.cons (Af rfl)<|HpLe.cons (OwLe.row (by rw[BS GU Q,<-List.append_assoc]))<|HpLe.cons (Aj rfl)<|HpLe.nil)
  .exact ZaX
theorem Vk(l:List (Nat->RQ×RQ))(K:ED (GI VW) l):Wr 205 (Gy l) (EL l):=Wr.intro λb F=>by
 have I:=A6u l K b F;refine Bp Tryz.func205 rfl (Ag Tryz.func205 ZbM ZbM) rfl λA r B=>?_;rw[Tryz.ntmps205];refine Go ?_;refine Zfo ?_;rintro _ _ ⟨rfl,rfl⟩;refine ZgV ?_
 exact ZbC
theorem Zy(s:RQ×List RTm)(f:SqW s):Wr 211 (AJ (KV s)) (Jk s):=Wr.intro λb F=>by
 simp only[Jk,List.length_append]at F;have g:=Fp s.1 f.1 (b) ZbP;have A:=On s.2 f.2 (b++CA s.1) ZbP;refine Bp Tryz.func211 rfl (Ag Tryz.func211 ZbM ZbM) rfl λB r I=>?_;rw[Tryz.ntmps211];refine Zfk ?_;rintro _ _ ⟨rfl,rfl⟩;refine Kr ?_;refine Zfm ?_;rintro _ _ ⟨rfl,rfl⟩;refine ZgV ?_
 first | refine Be RetsA.none rfl ?_ rfl | refine AE RetsA.none rfl ?_ rfl
 exact⟨rfl,by simp only[Jk,List.append_assoc];rfl⟩
theorem A6t(L:List (Int))(T:ED IW L):Wl 204 54 (LG L) (Bn Bc L):=Wl.intro λb F=>by
 have i:=CO (e:=Bc) (l:=L) λx _=>Kj x;have S:(Bn Bc L).length=(Bo L.length).length+(L.flatMap Bc).length:=ZiZ
 rw[S]at F;have g:=CN L.length ZbK b ZbK;refine Bp Tryz.func204 rfl (Ag Tryz.func204 ZbM ZbM) rfl λA r B=>?_;rw[Tryz.ntmps204];refine Y1<|Wm<|Wm ?_;refine Wq (Bi rfl (Aa rfl)) ?_;refine Wq (AC (r:=((L.length:Nat):Int)) (ao rfl) (Aa rfl) (Aa rfl) (Ec ZbK)) ?_
 refine AD [0,1] [] [] (g) ZbF rfl rfl ZbH ZbG ZbN ZbE ZbJ trivial rfl ?_;rintro _ _ ⟨rfl,rfl⟩;refine Kr ?_;refine Y0<|Y1<|Wm ?_;refine Wq (Bi rfl (Aa rfl)) ?_;refine Wm<|Y0<|AWp.block ?_
 refine Az (λP d=>∃k,k<=L.length/\P=L.length-k/\d=⟨[(0,.ptr 0 0),(2,.fn (54+1000000) [0]),(13,.d (LG L)),(14,.d (ex (.int .i64 (L.length:Nat)))),(15,.d (ex (.int .i64 (k:Nat))))],[.var 103 [.own 1],.row 5 1 (CE (b++Bo L.length++(L.take k).flatMap Bc)),.pin [(r,.own 0)]]⟩) ?le ⟨0,by omega,rfl,rfl⟩ ?round
 case le=>exact Zja
 case round=>
  rintro P _ ⟨k,C,rfl,rfl⟩;by_cases Q:k<L.length
  .have C:=CJ Bc Q
   have I:=ER (L.getD k default) (T _ (Cd Q)) (b++Bo L.length++(L.take k).flatMap Bc) ZbY;apply Y1;refine Wq Bj ?_;refine Y0<|Ao<|Ct<|Ys<|Ao<|AWp.block<|Y1 ?_;refine Wq (Ck (k:=k) rfl (ao rfl) (Aa rfl) (Aa rfl) rfl Q) ?_;refine Wq AO ?_;refine Wa<|Y0<|AWp.region<|Wm<|Wm ?_
   refine AD [0,1] [0] [] (I) ZbF rfl rfl ZbH ZbG ZbN ZbE ZbJ trivial rfl ?_;rintro _ _ ⟨rfl,rfl⟩;refine ZfY ?_;exact Ad ZbW (by exact HpLe.cons (Af rfl)<|HpLe.cons (OwLe.row (by rw[BS Bc Q,<-List.append_assoc]))<|HpLe.cons (Aj rfl)<|HpLe.nil)
  .exact ZaX
theorem A7g(L:List (RQ×RQ))(T:ED VW L):Wl 208 209 (A00 L) (Bn FX L):=Wl.intro λb F=>by
 have i:=CO (e:=FX) (l:=L) λx _=>MT x;have S:(Bn FX L).length=(Bo L.length).length+(L.flatMap FX).length:=ZiZ
 rw[S]at F;have g:=CN L.length ZbK b ZbK;refine Bp Tryz.func208 rfl (Ag Tryz.func208 ZbM ZbM) rfl λA r B=>?_;rw[Tryz.ntmps208];refine Y1<|Wm<|Wm ?_;refine Wq (Bi rfl (Aa rfl)) ?_;refine Wq (AC (r:=((L.length:Nat):Int)) (ao rfl) (Aa rfl) (Aa rfl) (Ec ZbK)) ?_
 refine AD [0,1] [] [] (g) ZbF rfl rfl ZbH ZbG ZbN ZbE ZbJ trivial rfl ?_;rintro _ _ ⟨rfl,rfl⟩;refine Kr ?_;refine Y0<|Y1<|Wm ?_;refine Wq (Bi rfl (Aa rfl)) ?_;refine Wm<|Y0<|AWp.block ?_
 refine Az (λP d=>∃k,k<=L.length/\P=L.length-k/\d=⟨[(0,.ptr 0 0),(2,.fn (209+1000000) [0]),(13,.d (A00 L)),(14,.d (ex (.int .i64 (L.length:Nat)))),(15,.d (ex (.int .i64 (k:Nat))))],[.var 103 [.own 1],.row 5 1 (CE (b++Bo L.length++(L.take k).flatMap FX)),.pin [(r,.own 0)]]⟩) ?le ⟨0,by omega,rfl,rfl⟩ ?round
 case le=>exact Zja
 case round=>
  rintro P _ ⟨k,C,rfl,rfl⟩;by_cases Q:k<L.length
  .have C:=CJ FX Q
   have I:=NC (L.getD k default) (T _ (Cd Q)) (b++Bo L.length++(L.take k).flatMap FX) ZbY;apply Y1;refine Wq Bj ?_;refine Y0<|Ao<|Ct<|Ys<|Ao<|AWp.block<|Y1 ?_;refine Wq (Ck (k:=k) rfl (ao rfl) (Aa rfl) (Aa rfl) rfl Q) ?_;refine Wq Cp ?_;refine Al ?_;refine Sf ?_;refine Y0<|AWp.region<|Wm ?_;refine Wq Bd ?_
   refine AD [0,1] [0] [] (I) ZbF rfl rfl ZbH ZbG ZbN ZbE ZbJ trivial rfl ?_;rintro _ _ ⟨rfl,rfl⟩;refine ZfY ?_;exact Ad ZbW (by exact HpLe.cons (Af rfl)<|HpLe.cons (OwLe.row (by rw[BS FX Q,<-List.append_assoc]))<|HpLe.cons (Aj rfl)<|HpLe.nil)
  .exact ZaX
theorem A7e(L:List (RQ×List RTm))(T:ED SqW L):Wl 210 211 (ZA L) (Bn Jk L):=Wl.intro λb F=>by
 have i:=CO (e:=Jk) (l:=L) λx _=>Wu x;have S:(Bn Jk L).length=(Bo L.length).length+(L.flatMap Jk).length:=ZiZ
 rw[S]at F;have g:=CN L.length ZbK b ZbK;refine Bp Tryz.func210 rfl (Ag Tryz.func210 ZbM ZbM) rfl λA r B=>?_;rw[Tryz.ntmps210];refine Y1<|Wm<|Wm ?_;refine Wq (Bi rfl (Aa rfl)) ?_;refine Wq (AC (r:=((L.length:Nat):Int)) (ao rfl) (Aa rfl) (Aa rfl) (Ec ZbK)) ?_
 refine AD [0,1] [] [] (g) ZbF rfl rfl ZbH ZbG ZbN ZbE ZbJ trivial rfl ?_;rintro _ _ ⟨rfl,rfl⟩;refine Kr ?_;refine Y0<|Y1<|Wm ?_;refine Wq (Bi rfl (Aa rfl)) ?_;refine Wm<|Y0<|AWp.block ?_
 refine Az (λP d=>∃k,k<=L.length/\P=L.length-k/\d=⟨[(0,.ptr 0 0),(2,.fn (211+1000000) [0]),(13,.d (ZA L)),(14,.d (ex (.int .i64 (L.length:Nat)))),(15,.d (ex (.int .i64 (k:Nat))))],[.var 103 [.own 1],.row 5 1 (CE (b++Bo L.length++(L.take k).flatMap Jk)),.pin [(r,.own 0)]]⟩) ?le ⟨0,by omega,rfl,rfl⟩ ?round
 case le=>exact Zja
 case round=>
  rintro P _ ⟨k,C,rfl,rfl⟩;by_cases Q:k<L.length
  .have C:=CJ Jk Q
   have I:=Zy (L.getD k default) (T _ (Cd Q)) (b++Bo L.length++(L.take k).flatMap Jk) ZbY;apply Y1;refine Wq Bj ?_;refine Y0<|Ao<|Ct<|Ys<|Ao<|AWp.block<|Y1 ?_;refine Wq (Ck (k:=k) rfl (ao rfl) (Aa rfl) (Aa rfl) rfl Q) ?_;refine Wq Cp ?_;refine Al ?_;refine Sf ?_;refine Y0<|AWp.region<|Wm ?_;refine Wq Bd ?_
   refine AD [0,1] [0] [] (I) ZbF rfl rfl ZbH ZbG ZbN ZbE ZbJ trivial rfl ?_;rintro _ _ ⟨rfl,rfl⟩;refine ZfY ?_;exact Ad ZbW (by exact HpLe.cons (Af rfl)<|HpLe.cons (OwLe.row (by rw[BS Jk Q,<-List.append_assoc]))<|HpLe.cons (Aj rfl)<|HpLe.nil)
  .exact ZaX
theorem A7f(L:List (Nat->RQ))(T:ED (GI QB) L):Wl 212 213 (A3t L) (Bn Om L):=Wl.intro λb F=>by
 have i:=CO (e:=Om) (l:=L) λx _=>GQ HL x;have S:(Bn Om L).length=(Bo L.length).length+(L.flatMap Om).length:=ZiZ
 rw[S]at F;have g:=CN L.length ZbK b ZbK;refine Bp Tryz.func212 rfl (Ag Tryz.func212 ZbM ZbM) rfl λA r B=>?_;rw[Tryz.ntmps212];refine Y1<|Wm<|Wm ?_;refine Wq (Bi rfl (Aa rfl)) ?_;refine Wq (AC (r:=((L.length:Nat):Int)) (ao rfl) (Aa rfl) (Aa rfl) (Ec ZbK)) ?_
 refine AD [0,1] [] [] (g) ZbF rfl rfl ZbH ZbG ZbN ZbE ZbJ trivial rfl ?_;rintro _ _ ⟨rfl,rfl⟩;refine Kr ?_;refine Y0<|Y1<|Wm ?_;refine Wq (Bi rfl (Aa rfl)) ?_;refine Wm<|Y0<|AWp.block ?_
 refine Az (λP d=>∃k,k<=L.length/\P=L.length-k/\d=⟨[(0,.ptr 0 0),(2,.fn (213+1000000) [0]),(13,.d (A3t L)),(14,.d (ex (.int .i64 (L.length:Nat)))),(15,.d (ex (.int .i64 (k:Nat))))],[.var 103 [.own 1],.row 5 1 (CE (b++Bo L.length++(L.take k).flatMap Om)),.pin [(r,.own 0)]]⟩) ?le ⟨0,by omega,rfl,rfl⟩ ?round
 case le=>exact Zja
 case round=>
  rintro P _ ⟨k,C,rfl,rfl⟩;by_cases Q:k<L.length
  .have C:=CJ Om Q
   have I:=A1t (L.getD k default) (T _ (Cd Q)) (b++Bo L.length++(L.take k).flatMap Om) ZbY;apply Y1;refine Wq Bj ?_;refine Y0<|Ao<|Ct<|Ys<|Ao<|AWp.block<|Y1 ?_;refine Wq (Ck (k:=k) rfl (ao rfl) (Aa rfl) (Aa rfl) rfl Q) ?_;refine Wq Cp ?_;refine Al ?_;refine Sf ?_;refine Y0<|AWp.region<|Wm ?_;refine Wq Bd ?_
   refine AD [0,1] [0] [] (I) ZbF rfl rfl ZbH ZbG ZbN ZbE ZbJ trivial rfl ?_;rintro _ _ ⟨rfl,rfl⟩;refine ZfY ?_;exact Ad ZbW (by exact HpLe.cons (Af rfl)<|HpLe.cons (OwLe.row (by rw[BS Om Q,<-List.append_assoc]))<|HpLe.cons (Aj rfl)<|HpLe.nil)
  .exact ZaX
end
end Go.Proofs.YtcikkglcoeedlaaGreat
