/- Part 25 of the proof of claimClashes_holds. No condition. -/
import Derived.Test.YtcikkglcoeedlaaGreatCx19
import Derived.Test.YtcikkglcoeedlaaGreatCx22
import Derived.Test.YtcikkglcoeedlaaGreatCx24
set_option linter.unusedSimpArgs false
set_option linter.unusedVariables false
set_option maxRecDepth 100000
namespace Go.Proofs.YtcikkglcoeedlaaGreat
variable{vt uX:AV->List Ow->Prop}{vG:Array Edge}{vb:FuncId}{i:IntKind}{vp:List (List D)}{o:List AV}{l f vm:List Nat}{H:List Ow}{j:Type}{vE:List j}{n b T m e k va:Nat}{x y:Operand}{vv:Operand->AV}{vS:Option (Nat×Bool)}{vA:Option Tmp}{P:Program}{vN:Rd j}{vF:String}{uD:Type}{d:TypeDesc}{t U:TypeId}{z v:Value}{vM:j}
section
open Go.RowKit
theorem SJ{o:Oper}{lo L:Option Operand}{B j:Int}(Y:o.op=.slice t x lo L none)(G:II H (vv x)=some (slD k va vp))(M:Tab P t (.slice n) b T z)(a:Tab P n d m e v)(w:m=va)(xb:(∃y,lo=some y/\vv y=.d (ex (.int i B)))\/(lo=none/\B=0))(xg:(∃y,L=some y/\vv y=.d (ex (.int i j)))\/(L=none/\j=vp.length))(Q:0<=B)(U:B<=j)(R:j<=vp.length):Quiet P H o vv (.d (slD k va ((vp.take j.toNat).drop B.toNat))):=by
 refine⟨λbase s S V X xa q h=>?_⟩;obtain⟨A,c,O,C,E,K⟩:=Ev q (h x (by rw[Y];simp[Op.operands])) G;subst w;obtain⟨B,rfl⟩:=Int.eq_ofNat_of_zero_le Q;obtain⟨j,rfl⟩:=Int.eq_ofNat_of_zero_le (Int.le_trans Q U);have xh:B<=j:=by omega
 have xf:j<=vp.length:=by omega
 have xj:∃xd,lo.map V=xd/\((xd=some (.int i B))\/(xd=none/\B=0)):=by
  rcases xb with⟨y,rfl,N⟩ | ⟨rfl,hi0⟩
  .exact ZaT
  .exact ⟨_,rfl,.inr ⟨rfl,by omega⟩⟩
 have xi:∃xc,L.map V=xc/\((xc=some (.int i j))\/(xc=none/\j=vp.length)):=by
  rcases xg with⟨y,rfl,N⟩ | ⟨rfl,hi0⟩
  .exact ZaT
  .exact ⟨_,rfl,.inr ⟨rfl,by omega⟩⟩
 obtain⟨xd,f,Z⟩:=xj;obtain⟨xc,r1,J⟩:=xi;have xk:(j:Int)<=c:=by omega
 have xe:(B:Int)<=j:=by omega
 have I:(Instr.sliceBounds true vp.length c xd xc none).run P s.w=.ok (B,j,c) s.w:=by
  rcases Z with rfl | ⟨rfl,rfl⟩<;>rcases J with rfl | ⟨rfl,rfl⟩<;>simp[Instr.sliceBounds,Instr.sliceBound,asIntOf,xk,xe,xh,xf,C]
  all_goals first | omega | simp[xh,xf,C] | skip
 have r:(execOp V o).run P s.w=.ok (.value (.slice (if c=B then A else A.map (·.add (B*m))) (j-B) (c-B))) s.w:=by
  simp only[execOp,Y,f,r1,O,Option.map_none,Instr.sliceAt,Sem.run_bind,run_underlying M.und,Result.andThen_ok,Instr.slice,I,a.run_size,Sem.run_pure]
 have l:((vp.take (j:Int).toNat).drop (B:Int).toNat).length=j-B:=ZgC
 refine BL r ⟨GS.Le.refl s,(if c=B then A else A.map (·.add (B*m))),c-B,by rw[l],by rw[l];omega,by omega,λH=>?_⟩;rw[l]at H;obtain⟨g,p,rfl,W⟩:=K Zbx;refine⟨g,p+B*m,?_,λu F=>?_⟩
 .rw [if_neg Zbx]
  simp[Addr.add_lit]
 .rw [l]at F
  rw[show(j:Int).toNat=j from rfl,show(B:Int).toNat=B from rfl];rw[YH,YG Zbx];have:=W (B+u) Zbx;rw[Nat.add_mul,<-Nat.add_assoc]at this;exact this
theorem Rv{hp:List Ow}{arg:Operand->AV}{dd:Option Tmp}{ty:TypeId}{ps:String}{af:Array Edge}{gd:Option (Nat×Bool)}{lo hi:Option Operand}{rows:List (List D)}{κ:IntKind}{i j:Int}(C:II hp (arg x)=some (slD k va rows))(M:Tab P U (.slice n) b T z)(a:Tab P n d m e v)(w:m=va)(A:(∃y,lo=some y/\arg y=.d (ex (.int κ i)))\/(lo=none/\i=0))(B:(∃y,hi=some y/\arg y=.d (ex (.int κ j)))\/(hi=none/\j=rows.length))(g:0<=i)(o:i<=j)(u:j<=rows.length):Quiet P hp ⟨dd,.slice U x lo hi none,ty,ps,af,gd⟩ arg (.d (slD k va ((rows.take j.toNat).drop i.toNat))):=SJ (o:=⟨dd,.slice U x lo hi none,ty,ps,af,gd⟩) rfl C M a w A B g o u
theorem DN{v:Value}{z:Value}(C:vv x=.d (ex v))(g:Tab P U (.int i) n b z):Quiet P H ⟨vA,.makeInterface U x,t,vF,vG,vS⟩ vv (.d (ex (.iface U v))):=by
 refine⟨λbase s S j T w a h=>?_⟩;have u:=h x Zcp;rw[C]at u;have d:j x=v:=u;refine BL (v:=.iface U v) ?_ ⟨GS.Le.refl s,rfl⟩;simp[execOp,d,Instr.makeInterface,run_underlying g.und]
theorem A1k(b:List Nat)(n:Nat):(Cy b).take n=Cy (b.take n):=by simp[Cy,List.map_take]
theorem A1m(b:List Nat)(n:Nat):(Cy b).drop n=Cy (b.drop n):=by simp[Cy,List.map_drop]
theorem CT{e n b T:Nat}(C:vv x=.d (FC T l))(M:Tab P U (.slice e) n b z):Quiet P H ⟨vA,.call { callee:=.builtin .len,args:=#[x],argTypes:=#[U] },t,vF,vG,vS⟩ vv (.d (ex (.int .i64 (l.length:Nat)))):=Bh (f:=λz:Nat=>[ex (.int .u8 (z:Nat))]) (by rw[C];rfl) M
theorem A1D{hp:List Ow}{arg:Operand->AV}{dd:Option Tmp}{ty:TypeId}{ps:String}{af:Array Edge}{gd:Option (Nat×Bool)}{κ:IntKind}(C:arg x=.d (FC k l))(N:arg y=.d (ex (.int κ (va:Nat))))(M:Tab P U (.slice n) b T z)(a:Tab P n d m e v)(w:m=1)(B:va<=l.length):Quiet P hp ⟨dd,.slice U x none (some y) none,ty,ps,af,gd⟩ arg (.d (FC k (l.take va))):=by
 have h:=Rv (P:=P) (hp:=hp) (arg:=arg) (dd:=dd) (ty:=ty) (ps:=ps) (af:=af) (gd:=gd) (lo:=none) (hi:=some y) (rows:=Cy l) (κ:=κ) (i:=0) (j:=(va:Nat)) (by rw[C];rfl) M a w (.inr ⟨rfl,rfl⟩) (.inl ⟨y,rfl,N⟩) Zbx Zbx (by rw[CB];omega);rw[show((va:Nat):Int).toNat=va from rfl,A1k]at h;exact h
theorem A1H{hp:List Ow}{arg:Operand->AV}{dd:Option Tmp}{ty:TypeId}{ps:String}{af:Array Edge}{gd:Option (Nat×Bool)}{κ:IntKind}(C:arg x=.d (FC k l))(N:arg y=.d (ex (.int κ (va:Nat))))(M:Tab P U (.slice n) b T z)(a:Tab P n d m e v)(w:m=1)(B:va<=l.length):Quiet P hp ⟨dd,.slice U x (some y) none none,ty,ps,af,gd⟩ arg (.d (FC k (l.drop va))):=by
 have h:=Rv (P:=P) (hp:=hp) (arg:=arg) (dd:=dd) (ty:=ty) (ps:=ps) (af:=af) (gd:=gd) (lo:=some y) (hi:=none) (rows:=Cy l) (κ:=κ) (i:=(va:Nat)) (j:=((Cy l).length:Nat)) (by rw[C];rfl) M a w (.inl ⟨y,rfl,N⟩) (.inr ⟨rfl,rfl⟩) Zbx (by rw[CB];omega) Zbx;rw[show((va:Nat):Int).toNat=va from rfl,show(((Cy l).length:Nat):Int).toNat=(Cy l).length from rfl,List.take_length,A1m]at h;exact h
theorem ConP.cut{args:List AV}{Q R:AV->List Ow->Prop}{q:List PanicEntry}{N:Prop}(h:ConP P vb args H Q q N)(z:∀r B,Q r B->A3L r=true/\(∀(i:Nat) o,(B.take H.length)[i]? = some o->o.below H.length)/\R r (B.take H.length)):ConP P vb args H R q N:=
 ⟨h.1,λs S F u A I V m=>(h.2 s S F u A I V m).mono λe O G=>G.imp (λ⟨v,a,c,K,r,B,L,C,Y,t⟩=>by
  obtain⟨W,E,M⟩:=z r B L
  cases r with
  |d x=>exact⟨v,a,c,K,.d x,_,M,C,Y,t.take E⟩
  |_=>cases W) λh=>h⟩
abbrev rH(T:TypeId)(l:List Nat):List Ow:=[.var 92 [.d (FC T l)]]
abbrev rCh:List PanicEntry:=[{ v:=.iface 49 (.int .i64 3),recovered:=false }]
structure Byt(l:List Nat):Prop where
 lt:∀z∈l,z<256
 len:l.length<=1000000000
theorem Byt.drop(h:Byt l)(k:Nat):Byt (l.drop k):=⟨λz u=>h.lt z (List.mem_of_mem_drop u),by rw[List.length_drop];have:=h.len;omega⟩
theorem Ou(h:H.take 1=rH t l):∀(i:Nat) o,(H.take 1)[i]? = some o->o.below 1:=λi o K=>by
 rw[h]at K
 match i,K with
 |0,K=>cases K;intro u A;rw[List.mem_singleton.1 A];rfl
def Rdr{E:Type}(f:FuncId)(d:E->D)(p:Rd E):Prop:=∀(T:TypeId) l,Byt l->ConP Tryz.prog f [.ptr 0 0] (rH T l) (λr u=>∃x q,p l=some (x,q)/\Byt q/\r=.d (d x)/\u=rH T q) rCh (p l=none)
theorem Rdr.intro{f:FuncId}{d:j->D}{p:Rd j}(h:∀(T:TypeId) l,Byt l->ConP Tryz.prog f [.ptr 0 0] (rH T l) (λr B=>∃x q,p l=some (x,q)/\Byt q/\r=.d (d x)/\B.take 1=rH T q) rCh (p l=none)):Rdr f d p:=λT l L=>(h T l L).cut λr B ⟨x,q,u,A,I,V⟩=>by
 subst I;exact⟨rfl,Ou V,x,q,u,A,rfl,V⟩
theorem XF(T:TypeId)(l:List Nat)(L:Byt l)(n:Nat)(B:n<1000):ConP Tryz.prog 305 [.ptr 0 0,.d (ex (.int .u64 (n:Nat)))] (rH T l) (λr C=>n<=l.length/\r=.d (FC T (l.take n))/\C=rH T (l.drop n)) rCh (l.length<n):=by
 refine ConP.cut (Q:=λr C=>n<=l.length/\r=.d (FC T (l.take n))/\C.take 1=rH T (l.drop n)) ?_ λr C ⟨u,A,I⟩=>by
  subst A;exact⟨rfl,Ou I,u,rfl,I⟩
 have o:=L.len;have E:=CB l;refine Bf Tryz.func305 rfl (Ag Tryz.func305 Zbz Zbz) rfl λF m=>?_;rw[Tryz.ntmps305];refine Y1<|Wa<|Y0<|Aj<|Y1<|Wm<|Wm ?_;refine Wq (BI (ao rfl)) ?_;refine Wq AH ?_;refine Wq BN ?_;refine Wq (CT (ao rfl) (Aa rfl)) ?_;refine Wq (AD (r:=((l.length:Nat):Int)) (ao rfl) (Aa rfl) (Aa rfl) (DU Zbx)) ?_;refine Wq BP ?_;apply Y0
 by_cases h:l.length<n
 .refine Zfx ?_
  refine CP (ao rfl) ?_;exact(by repeat (first | exact AC (h) | apply Ar | apply PanQ.block | apply PanQ.loop):PanQ _ _) _
 .refine Go ?_;refine Wq (BI (ao rfl)) ?_;refine Go ?_;refine Wq (A1D (ao rfl) (ao rfl) (Aa rfl) (Aa rfl) rfl Zbx) ?_;refine Go ?_;refine Wq (BI (ao rfl)) ?_;refine Go ?_;refine Wq (A1H (ao rfl) (ao rfl) (Aa rfl) (Aa rfl) rfl Zbx) ?_;refine Wq (BI (ao rfl)) ?_;refine Wq AH ?_;refine Fr (ao rfl) (ao rfl) rfl (Aa rfl) Fq rfl rfl ?_;refine Go ?_
  refine FinP.ret (RetsA.one rfl) rfl ?_ rfl;exact⟨by omega,rfl,rfl⟩
def Wb(f:FuncId)(x:D)(e:List Nat):Prop:=∀b,b.length+e.length<=1000000000000->Con Tryz.prog f [.own 0,.d x] [.row 5 1 (Cy b)] [0] (λr u=>r=.own 0/\u=[.row 5 1 (Cy (b++e))])
theorem Con.cutB{args:List AV}(h:Con P vb args H l vt)(z:∀r B,vt r B->r.below H.length=true/\(∀(i:Nat) o,(B.take H.length)[i]? = some o->o.below H.length)/\uX r (B.take H.length)):Con P vb args H l uX:=
 ⟨h.1,λs S F u A I V m=>(h.2 s S F u A I V m).mono λe O ⟨v,a,c,G,r,B,N,C,Y,t⟩=>by
  obtain⟨W,E,Q⟩:=z r B N;have L:(B.take H.length).length=H.length:=by rw[List.length_take];have:=t.len;omega
  refine⟨v,a,c,G,r,_,Q,C,?_,t.take E⟩;rw[L]
  cases r with
  |d x=>exact Y
  |ptr i off=>exact ZhO
  |own i=>exact ZhO
  |fn vb M=>exact⟨λi K=>by have:=List.all_eq_true.1 W i K;simpa[Nat.blt_eq]using this,Y.2⟩⟩
theorem Wb.intro{f:FuncId}{x:D}{e:List Nat}(h:∀b,b.length+e.length<=1000000000000->Con Tryz.prog f [.own 0,.d x] [.row 5 1 (Cy b)] [0] (λr B=>r=.own 0/\B.take 1=[.row 5 1 (Cy (b++e))])):Wb f x e:=λb E=>(h b E).cutB λr B ⟨u,A⟩=>by
 subst u;refine⟨rfl,λi o K=>?_,rfl,A⟩;have A:B.take 1=[.row 5 1 (Cy (b++e))]:=A;change (B.take 1)[i]? = some o at K;rw[A]at K
 match i,K with
 |0,K=>cases K;trivial
theorem CM{R:Func}{c:Code}{T:Ow}(p:P.funcs[vb]? = some R)(E:R.body=some c)(b:∀o w,(callFunc vb o).run P w=.ok (.enter vb o) w)(u:Nat.ble o.length R.ntmps=true)
  (h:∀(B:An) (v:Value),AWp P B R.ntmps c (FinC P R [0] [v] vt) ⟨Hy 0 o,[T,.pin []]⟩):Con P vb o [T] [0] vt:=
 PY p E b u λB F A=>by
  match F,A with
  |[v],_=>exact h B v
section
variable {P:Program} {hp:List Ow} {arg:Operand->AV} {dd:Option Tmp} {ty:TypeId} {ps:String} {af:Array Edge} {gd:Option (Nat×Bool)} {T U:TypeId} {x y:Operand} {k:IntKind} {a b r:Int}
theorem JX(C:arg x=.d (ex (.int k a)))(N:arg y=.d (ex (.int k b)))(E:b≠0)(Y:a.tmod b=r):Quiet P hp ⟨dd,.binOp .rem T x y U,ty,ps,af,gd⟩ arg (.d (ex (.int k r))):=
 Cu rfl C N λw=>by simp[eqGuard,binOp,Op.intDiv,E,Y]
theorem Bo{c:Array Field}{f n b e A id off r:Nat}{V:Field}(C:arg x=.ptr id off)(l:Tab P t (.struct c) n b z)(p:c[f]? = some V)(u:Tab P V.type d e A v)(h:Nat.beq e 0=false)(Y:off+V.offset=r):Quiet P hp ⟨dd,.fieldAddr t x f,ty,ps,af,gd⟩ arg (.ptr id r):=Y▸GG C l p u h
end
theorem Fn(n:Nat)(u:n<18446744073709551616):Wb 118 (ex (.int .u64 (n:Nat))) (Bl n):=Wb.intro λb E=>by
 refine CM Tryz.func118 rfl (Ag Tryz.func118 Zbz Zbz) rfl λA=>?_;rw[Tryz.ntmps118];intro C;refine Go ?_;refine AE (λB f=>∃x e,B=e/\e<18446744073709551616/\x++Bl e=b++Bl n/\f=⟨[(0,.own 0),(1,.d (ex (.int .u64 (e:Nat))))],[.row 5 1 (Cy x),.pin []]⟩) ?le ⟨b,n,rfl,u,rfl,rfl⟩ ?round
 case le=>exact Ac ZdP (by exact Yr<|HpLe.cons (Ai rfl)<|HpLe.nil)
 case round=>
  rintro e _ ⟨x,_,rfl,X,a,rfl⟩;have o:(x++Bl e).length=(b++Bl n).length:=by rw[a]
  rw[List.length_append,List.length_append]at o;have F:=GT e;by_cases h:128<=e
  .have d:Bl e=(e%128+128)::Bl (e/128):=by rw [Bl, if_neg Zbx]
   have v:Bl e=[e%128+128]++Bl (e/128):=d;rw[d,List.length_cons]at o;have L:=CB x;have O:=GT (e/128);refine Aj<|Y1<|Wm ?_;refine Wq AZ ?_;refine Y0<|Ct<|Ys<|AWp.block<|Y1<|Wm<|Wm ?_;refine Wq (JX (r:=((e%128:Nat):Int)) (ao rfl) (ao rfl) ZbA ZcG) ?_;refine Wq (AD (r:=((e%128:Nat):Int)) (ao rfl) (Aa rfl) (Aa rfl) Zce) ?_;refine Wq (DA (r:=((e%128+128:Nat):Int)) (ao rfl) (ao rfl) Zce) ?_;(refine CA rfl rfl ?_;(refine De (Aa rfl) (Aa rfl) rfl rfl rfl rfl rfl ?_;(repeat ((first | refine⟨_,As (ao rfl),?_⟩ | refine⟨_,Po rfl,?_⟩);refine⟨_,rfl,?_⟩));refine⟨_,rfl,?_⟩));(refine DP (r2:=[[ex (.int .u8 ((e%128+128:Nat):Int))]]) (ao rfl) rfl rfl (Aa rfl) (Aa rfl) rfl rfl ZcQ ZcQ rfl ZbB rfl ?_);refine Wa<|Y0<|AWp.region<|Wm ?_;refine Wq (HF (r:=((e/128:Nat):Int)) (ao rfl) (ao rfl) ZbA ZcE) ?_;refine Wa<|AWl.nil<|BE ?_
   refine Am (e/128) Zbx ⟨x++[e%128+128],e/128,rfl,by omega,by rw[List.append_assoc,<-v];exact a,rfl⟩ ?_;exact Ac ZdP (by(refine HpLe.cons (OwLe.row (by rw[He];rfl)) ?_);exact HpLe.cons (Ai rfl)<|HpLe.nil)
  .have d:Bl e=[e]:=by rw [Bl, if_pos Zbx]
   rw[d,List.length_cons]at o;rw[d]at a;have L:=CB x;refine Aj<|Y1<|Wm ?_;refine Wq AR ?_;refine Y0<|Cf<|Cl<|BF<|Ca<|BJ<|Yn<|Y1<|Wm<|Wm ?_;refine Wq (AD (r:=((e:Nat):Int)) (ao rfl) (Aa rfl) (Aa rfl) Zce) ?_;(refine CA rfl rfl ?_;(refine De (Aa rfl) (Aa rfl) rfl rfl rfl rfl rfl ?_;(repeat ((first | refine⟨_,As (ao rfl),?_⟩ | refine⟨_,Po rfl,?_⟩);refine⟨_,rfl,?_⟩));refine⟨_,rfl,?_⟩));(refine DP (r2:=[[ex (.int .u8 ((e:Nat):Int))]]) (ao rfl) rfl rfl (Aa rfl) (Aa rfl) rfl rfl ZcQ ZcQ rfl ZbB rfl ?_);refine Wa<|Y0<|BG ?_
   first | refine Be (RetsA.one rfl) rfl ?_ rfl | refine AG (RetsA.one rfl) rfl ?_ rfl
   exact⟨rfl,by rw[<-a,He];rfl⟩
theorem EG(z:Int)(B:IW z):Wb 52 (ex (.int .i64 z)) (Bc z):=Wb.intro λb E=>by
 obtain⟨u,A⟩:=B;by_cases h:0<=z
 .have e:Bc z=Bl (2*z.toNat):=by rw [Bc, TN, if_neg Zbx]
  rw[e]at E ⊢;have G:=Fn (2*z.toNat) Zbx b E;refine CM Tryz.func52 rfl (Ag Tryz.func52 Zbz Zbz) rfl λC=>?_;rw[Tryz.ntmps52];intro v;refine Y1<|Wa<|Y0<|Aj<|Y1<|Wm ?_;refine Wq AR ?_;refine Y0<|Cf<|Ys<|Y1<|Wm<|Wm ?_;refine Wq (AD (r:=((z.toNat:Nat):Int)) (ao rfl) (Aa rfl) (Aa rfl) ZcC) ?_;refine Wq (IL (r:=((2*z.toNat:Nat):Int)) (ao rfl) (ao rfl) ZcC) ?_
  exact ZaU
 .have e:Bc z=Bl (2*(-(z+1)).toNat+1):=by rw [Bc, TN, if_pos Zbx]
  rw[e]at E ⊢;have G:=Fn (2*(-(z+1)).toNat+1) Zbx b E;refine CM Tryz.func52 rfl (Ag Tryz.func52 Zbz Zbz) rfl λC=>?_;rw[Tryz.ntmps52];intro v;refine Y1<|Wa<|Y0<|Aj<|Y1<|Wm ?_;refine Wq AZ ?_;refine Y0<|Ct<|Y1<|Wm<|Wm ?_;refine Wq Wu ?_;refine Wq Wp ?_;refine Wq (AD (r:=(((-(z+1)).toNat:Nat):Int)) (ao rfl) (Aa rfl) (Aa rfl) ZcC) ?_;refine Wq (IL (r:=((2*(-(z+1)).toNat:Nat):Int)) (ao rfl) (ao rfl) ZcC) ?_;refine Wq (DA (r:=((2*(-(z+1)).toNat+1:Nat):Int)) (ao rfl) (ao rfl) ZcC) ?_
  exact ZaU
theorem A4c(u:n<2^T)(s:n+b*2^T<18446744073709551616):IntKind.u64.wrap ((BitVec.ofInt IntKind.u64.bits ((n:Nat):Int) ||| BitVec.ofInt IntKind.u64.bits ((b*2^T:Nat):Int)).toNat)=((n+b*2^T:Nat):Int):=by
 have d:(BitVec.ofInt IntKind.u64.bits ((n:Nat):Int))=BitVec.ofNat 64 n:=rfl;have v:(BitVec.ofInt IntKind.u64.bits ((b*2^T:Nat):Int))=BitVec.ofNat 64 (b*2^T):=rfl;rw[d,v];show IntKind.u64.wrap (((BitVec.ofNat 64 n ||| BitVec.ofNat 64 (b*2^T)).toNat:Nat):Int)=_;rw[BitVec.toNat_or,BitVec.toNat_ofNat,BitVec.toNat_ofNat,Nat.mod_eq_of_lt Zbx,Nat.mod_eq_of_lt Zbx];have h:=Nat.shiftLeft_add_eq_or_of_lt u b;rw[Nat.shiftLeft_eq]at h;rw[Nat.or_comm,<-h,DU Zbx];omega
theorem A0l(h:n*2^b<18446744073709551616):IntKind.u64.wrap ((n:Nat)*2^b:Int)=((n*2^b:Nat):Int):=by
 have e:((n:Nat):Int)*2^b=((n*2^b:Nat):Int):=by push_cast;rfl
 rw[e,DU Zbx]
theorem A2m:IntKind.u64.wrap ((n:Nat)*2^b:Int)=((n*2^b%18446744073709551616:Nat):Int):=by
 have e:((n:Nat):Int)*2^b=((n*2^b:Nat):Int):=by push_cast;rfl
 rw[e,IntKind.wrap_u64];omega
theorem A0K(k s n:Nat):Nt k s n []=none:=by cases k<;>rfl
theorem CX:Rdr 260 (λn:Nat=>ex (.int .u64 (n:Nat))) Ns:=Rdr.intro λT l L=>by
 refine Bf Tryz.func260 rfl (Ag Tryz.func260 Zbz Zbz) rfl λI Q=>?_;rw[Tryz.ntmps260];refine Go ?_;refine AE (λM f=>∃i n q,i<=10/\M=10-i/\n<2^(7*i)/\Byt q/\Nt (10-i) (2^(7*i)) n q=Ns l/\f=⟨[(0,.ptr 0 0),(3,.d (ex (.int .u64 (n:Nat)))),(4,.d (ex (.int .i64 ((7*i:Nat):Int))))],[.var 92 [.d (FC T q)],.pin [(Q,.own 0)]]⟩) ?le ⟨0,0,l,by omega,rfl,by decide,L,rfl,rfl⟩ ?round
 case le=>exact Ac Zca ZdK
 case round=>
  rintro M _ ⟨i,n,q,K,rfl,h,W,a,rfl⟩;by_cases g:i<10
  .obtain ⟨k, B⟩:∃k, 10-i=k+1:=⟨9-i, by omega⟩
   rw[B]at a;have U:=XF T q W 1 ZbA;refine Go ?_;refine AJ [0] [] [] (U) (BA rfl) (λY=>(by repeat (first | exact AC (by rw[<-a,List.length_eq_zero_iff.1 (show q.length=0 by omega),A0K]) | apply Ar | apply PanQ.block | apply PanQ.loop):PanQ _ _) _) rfl rfl Zbu Zbt ZbA Zbr Zbw trivial rfl ?_;rintro _ _ ⟨u,rfl,rfl⟩;refine Kr ?_
   obtain⟨c,O,rfl⟩:∃c O,q=c::O:=by
    cases q with
    |nil=>simp at u
    |cons c O=>exact⟨c,O,rfl⟩
   have G:=W.lt c List.mem_cons_self;have R:Byt O:=W.drop 1;rw[Nt]at a
   dsimp only at a
   obtain⟨m,s⟩:∃m,m=c%128:=⟨_,rfl⟩;rw[<-s]at a;have F:0<2^(7*i):=Nat.pow_pos ZbA;refine Wq ZI ?_;refine Wq Az ?_;refine Wq (AD (r:=((c:Nat):Int)) (ao rfl) (Aa rfl) (Aa rfl) (DU Zbx)) ?_;refine Wa<|Y0<|Y1<|Wm ?_;refine Wq (JX (r:=((m:Nat):Int)) (ao rfl) (ao rfl) ZbA ZcG) ?_;refine Wa<|Y0<|Aj<|Y1<|Wm<|Wm ?_
   by_cases E:18446744073709551616<=m*2^(7*i)
   .rw [if_pos E]at a
    obtain⟨x,C⟩:∃x,x=m*2^(7*i)%18446744073709551616:=⟨_,rfl⟩;obtain⟨y,N⟩:∃y,y=x/2^(7*i):=⟨_,rfl⟩
    have S:y≠m:=λe=>by
     have A:y*2^(7*i)<=x:=by rw[N];exact Nat.div_mul_le_self _ _
     rw[e]at A;omega
    refine Wq (JW (n:=7*i) (r:=((x:Nat):Int)) (ao rfl) (ao rfl) (Nat.min_eq_left Zdo) (by rw[A2m,C])) ?_;refine Wm ?_;refine Wq (DI (n:=7*i) (r:=((y:Nat):Int)) (ao rfl) (ao rfl) (Nat.min_eq_left Zdo) (by rw[DY rfl,N])) ?_;refine Zfx ?_;exact Zfr
   .rw [if_neg E]at a
    obtain⟨x,C⟩:∃x,x=m*2^(7*i):=⟨_,rfl⟩;have N:x/2^(7*i)=m:=by rw[C,Nat.mul_div_cancel _ F]
    have d:m<128:=by omega
    have b:2^(7*(i+1))=2^(7*i)*128:=by rw[Nat.mul_add,Nat.pow_add]
    have V:x+2^(7*i)<=2^(7*(i+1)):=by
     rw[b,C];have:(m+1)*2^(7*i)<=128*2^(7*i):=Nat.mul_le_mul Zbx (Nat.le_refl _);rw[Nat.add_mul,Nat.one_mul]at this;omega
    have j:n+x<18446744073709551616:=by
     rcases Nat.lt_or_ge i 9 with Z | Z
     .have:2^(7*(i+1))<=2^63:=Nat.pow_le_pow_right ZbA Zbx
      omega
     .obtain rfl:i=9:=by omega
      omega
    rw[<-C]at a;refine Wq (JW (n:=7*i) (r:=((x:Nat):Int)) (ao rfl) (ao rfl) (Nat.min_eq_left Zdo) (by rw[C];exact A0l Zbx)) ?_;refine Wm ?_;refine Wq (DI (n:=7*i) (r:=((m:Nat):Int)) (ao rfl) (ao rfl) (Nat.min_eq_left Zdo) (by rw[DY rfl,N])) ?_;refine Go ?_;refine Wq (JW (n:=7*i) (r:=((x:Nat):Int)) (ao rfl) (ao rfl) (Nat.min_eq_left Zdo) (by rw[C];exact A0l Zbx)) ?_;refine Wq (SP (r:=((n+x:Nat):Int)) (ao rfl) (ao rfl) (by rw[C];exact A4c h Zbx)) ?_;refine Go ?_;by_cases X:c<128
    .rw [if_pos X]at a
     refine Go ?_;refine FinP.ret (RetsA.one rfl) rfl ?_ rfl;exact⟨_,_,a.symm,R,rfl,rfl⟩
    .rw [if_neg X]at a
     refine Go ?_;refine Am (10-(i+1)) Zbx ⟨i+1,n+x,O,by omega,rfl,by omega,R,by rw[<-a,b,show 10-(i+1)=k by omega],rfl⟩ ?_;exact Ac Zca ZdK
  .obtain rfl:i=10:=by omega
   refine Zfx ?_;exact Zfr
def G0:Lg:=⟨Ns,λn=>decide (n<=65535)⟩
theorem TP:∀(k j n:Nat) (l:List Nat) (x:Nat) (q:List Nat),j+7*k=70->n<2^j->Nt k (2^j) n l=some (x,q)->x<18446744073709551616
 |0,_,_,_,_,_,_,_,h=>by cases h
 |k+1,j,n,[],_,_,_,_,h=>by cases h
 |k+1,j,n,c::l,x,q,i,B,h=>by
  rw[Nt]at h
  dsimp only at h
  split at h
  .cases h
  .rename_i C
   have F:2^(64-j)*2^j=18446744073709551616:=by rw[<-Nat.pow_add,show 64-j+j=64 by omega]
   have u:c%128<2^(64-j):=by
    rcases Nat.lt_or_ge (c%128) (2^(64-j))with h | h
    .exact h
    .have:=Nat.mul_le_mul_right (2^j) h
     omega
   have A:(c%128+1)*2^j<=2^(64-j)*2^j:=Nat.mul_le_mul_right _ u;rw[Nat.add_mul,Nat.one_mul,F]at A;split at h
   .cases h
    omega
   .rw [show 2^j*128=2^(j+7) by rw [Nat.pow_add]] at h
    refine TP k (j+7) _ l x q Zbx ?_ h;have I:(c%128+1)*2^j<=128*2^j:=Nat.mul_le_mul_right _ Zbx;rw[Nat.add_mul,Nat.one_mul]at I;rw[Nat.pow_add];omega
theorem EH(h:Ns l=some (n,f)):n<18446744073709551616:=TP 10 0 0 l n f rfl ZbA h
theorem Rd.none{p:Rd j}{f:j->Rd uD}(h:p l=.none):p.bind f l=.none:=by rw[Rd.bind,h]
theorem Rd.some{p:Rd j}{f:j->Rd uD}{l l':List Nat}{a:j}(h:p l=.some (a,l')):p.bind f l=f a l':=by rw[Rd.bind,h]
theorem Fe:Rdr 183 (λz:Int=>ex (.int .i64 z)) (Hr G0):=Rdr.intro λT l L=>by
 have G:=CX T l L;refine Bf Tryz.func183 rfl (Ag Tryz.func183 Zbz Zbz) rfl λC m=>?_;rw[Tryz.ntmps183];refine ZeD ?_;rintro _ _ ⟨n,q,u,A,rfl,rfl⟩;refine Kr ?_;have B:=EH u;have X:Hr G0 l=some (if n%2=0 then((n/2:Nat):Int)else -((n/2:Nat):Int)-1,q):=Rd.some u;by_cases h:n%2=0
 .rw [if_pos h]at X
  refine Wa<|Y0<|Aj<|Y1<|Wm ?_;refine Wq (JX (r:=((n%2:Nat):Int)) (ao rfl) (ao rfl) ZbA ZcG) ?_;refine Wq AZ ?_;refine Y0<|Ct<|Y1<|Wm ?_;refine Wq (HF (r:=((n/2:Nat):Int)) (ao rfl) (ao rfl) ZbA ZcE) ?_;refine Wq (AD (r:=((n/2:Nat):Int)) (ao rfl) (Aa rfl) (Aa rfl) ZdN) ?_;refine Wa<|Y0<|BG<|Di ?_
  exact Zgn
 .rw [if_neg h]at X
  refine Wa<|Y0<|Aj<|Y1<|Wm ?_;refine Wq (JX (r:=((n%2:Nat):Int)) (ao rfl) (ao rfl) ZbA ZcG) ?_;refine Wq AR ?_;refine Y0<|Cf<|Ys<|Y1<|Wm ?_;refine Wq (HF (r:=((n/2:Nat):Int)) (ao rfl) (ao rfl) ZbA ZcE) ?_;refine Wq (AD (r:=((n/2:Nat):Int)) (ao rfl) (Aa rfl) (Aa rfl) ZdN) ?_;refine Wq Wp ?_;refine Wq A4S ?_;refine Wa<|Y0<|BG ?_
  exact Zgn
def Rdl{E:Type}(f Z:FuncId)(d:List E->D)(p:Rd E):Prop:=∀(T:TypeId) l,Byt l->ConP Tryz.prog f [.ptr 0 0,.fn (Z+1000000) [0]] (rH T l) (λr u=>∃x q,Ff G0 p l=some (x,q)/\Byt q/\r=.d (d x)/\u=rH T q) rCh (Ff G0 p l=none)
theorem Rdl.intro{f Z:FuncId}{d:List j->D}{p:Rd j}(h:∀(T:TypeId) l,Byt l->ConP Tryz.prog f [.ptr 0 0,.fn (Z+1000000) [0]] (rH T l) (λr B=>∃x q,Ff G0 p l=some (x,q)/\Byt q/\r=.d (d x)/\B.take 1=rH T q) rCh (Ff G0 p l=none)):Rdl f Z d p:=λT l L=>(h T l L).cut λr B ⟨x,q,u,A,I,V⟩=>by
 subst I;exact⟨rfl,Ou V,x,q,u,A,rfl,V⟩
theorem FR{p:Rd j}(h:Ns l=none):Ff G0 p l=none:=Rd.none h
theorem FQ{p:Rd j}(h:Ns l=some (n,f)):Ff G0 p l=if n<=f.length then BQ p n f else none:=by
 have h:G0.nat l=some (n,f):=h;unfold Ff;rw[Rd.some h];unfold Jm Rd.bind;by_cases u:n<=f.length
 .simp [u]
 .simp [u]
theorem Dj{p:Rd j}(B:b<n)(h:BQ p n l=(BQ p (n-b) f).map λy=>(vE++y.1,y.2))(C:p f=some (vM,vm)):BQ p n l=(BQ p (n-(b+1)) vm).map λy=>((vE++[vM])++y.1,y.2):=by
 rw[h,show n-b=(n-(b+1))+1 by omega,BQ,Rd.some C];unfold Rd.bind
 cases BQ p (n-(b+1)) vm with
 |none=>rfl
 |some y=>simp[BT]
theorem Dk{p:Rd j}(B:b<n)(h:BQ p n l=(BQ p (n-b) f).map λy=>(vE++y.1,y.2))(C:p f=none):BQ p n l=none:=by
 rw[h,show n-b=(n-(b+1))+1 by omega,BQ,Rd.none C];rfl
theorem A5D(X:Rdr 183 (λx:Int=>ex (.int .i64 x)) (Hr G0)):Rdl 187 183 (λL:List (Int)=>slD 3 1 (L.map (λz:Int=>[ex (.int .i64 z)]))) (Hr G0):=Rdl.intro λT l A=>by
 have G:=CX T l A;refine Bf Tryz.func187 rfl (Ag Tryz.func187 Zbz Zbz) rfl λC m=>?_;rw[Tryz.ntmps187];refine Zew ?_;rintro _ _ ⟨n,j,u,P,rfl,rfl⟩;refine Kr ?_;have h:=EH u;have o:=P.len;have K:=FQ (p:=(Hr G0)) u;by_cases E:n<=j.length
 .rw [if_pos E]at K
  refine Wa<|Y0<|Aj<|Y1<|Wm<|Wm ?_;refine Wq (BI (ao rfl)) ?_;refine Wq AH ?_;refine Wq BN ?_;refine Wq (CT (ao rfl) (Aa rfl)) ?_;refine Wq (AD (r:=((j.length:Nat):Int)) (ao rfl) (Aa rfl) (Aa rfl) (DU Zbx)) ?_;refine Wq AR ?_;refine Y0<|Cf<|Ys<|Y1<|Wa<|Y0<|Aj<|Y1<|Wm<|Wm<|Y0<|AWp.block ?_
  refine DK 6 3 1 rfl ZbA ZbA rfl rfl ?_;refine AE (λF f=>∃k N c,k<=n/\F=n-k/\N.length=k/\Byt c/\(BQ (Hr G0) n j=(BQ (Hr G0) (n-k) c).map λy=>(N++y.1,y.2))/\f=⟨[(0,.ptr 0 0),(1,.fn (183+1000000) [0]),(6,.own 2),(18,.d (ex (.int .u64 (n:Nat)))),(19,.d (ex (.int .u64 (k:Nat))))],[.var 92 [.d (FC T c)],.pin [(m,.own 0)],.row 3 1 (N.map (λz:Int=>[ex (.int .i64 z)]))]⟩) ?le ⟨0,[],j,Nat.zero_le _,rfl,rfl,P,by cases BQ (Hr G0) n j<;>rfl,rfl⟩ ?round
  case le=>exact ZhP
  case round=>
   rintro F _ ⟨k,N,c,B,rfl,V,O,Y,rfl⟩;by_cases Q:k<n
   .have G:=X T c O
    refine Zex ?_;rintro _ _ ⟨x,R,I,S,rfl,rfl⟩;refine Kr ?_
    (refine CA rfl rfl ?_;(refine De (Aa rfl) (Aa rfl) rfl rfl rfl rfl rfl ?_;(repeat ((first | refine⟨_,As (ao rfl),?_⟩ | refine⟨_,Po rfl,?_⟩);refine⟨_,rfl,?_⟩));refine⟨_,rfl,?_⟩));(refine DP (r2:=[(λz:Int=>[ex (.int .i64 z)]) x]) (ao rfl) rfl rfl (Aa rfl) (Aa rfl) rfl rfl ZgC ZgC rfl ZbB rfl ?_);exact Zfq
   .exact ZaV
 .exact ZaW
theorem A5C(X:Rdr 270 (λx:RQ=>AL (HK x)) (Fw G0)):Rdl 306 270 (λL:List (RQ)=>slD 111 4 (L.map HK)) (Fw G0):=Rdl.intro λT l A=>by
 have G:=CX T l A;refine Bf Tryz.func306 rfl (Ag Tryz.func306 Zbz Zbz) rfl λC m=>?_;rw[Tryz.ntmps306];refine Zew ?_;rintro _ _ ⟨n,j,u,P,rfl,rfl⟩;refine Kr ?_;have h:=EH u;have o:=P.len;have K:=FQ (p:=(Fw G0)) u;by_cases E:n<=j.length
 .rw [if_pos E]at K
  refine Wa<|Y0<|Aj<|Y1<|Wm<|Wm ?_;refine Wq (BI (ao rfl)) ?_;refine Wq AH ?_;refine Wq BN ?_;refine Wq (CT (ao rfl) (Aa rfl)) ?_;refine Wq (AD (r:=((j.length:Nat):Int)) (ao rfl) (Aa rfl) (Aa rfl) (DU Zbx)) ?_;refine Wq AR ?_;refine Y0<|Cf<|Ys<|Y1<|Wa<|Y0<|Aj<|Y1<|Wm<|Wm<|Y0<|AWp.block ?_
  refine DK 6 111 4 rfl ZbA ZbA rfl rfl ?_;refine AE (λF f=>∃k N c,k<=n/\F=n-k/\N.length=k/\Byt c/\(BQ (Fw G0) n j=(BQ (Fw G0) (n-k) c).map λy=>(N++y.1,y.2))/\f=⟨[(0,.ptr 0 0),(1,.fn (270+1000000) [0]),(6,.own 2),(18,.d (ex (.int .u64 (n:Nat)))),(19,.d (ex (.int .u64 (k:Nat))))],[.var 92 [.d (FC T c)],.pin [(m,.own 0)],.row 111 4 (N.map HK)]⟩) ?le ⟨0,[],j,Nat.zero_le _,rfl,rfl,P,by cases BQ (Fw G0) n j<;>rfl,rfl⟩ ?round
  case le=>exact ZhP
  case round=>
   rintro F _ ⟨k,N,c,B,rfl,V,O,Y,rfl⟩;by_cases Q:k<n
   .have G:=X T c O
    refine Zex ?_;rintro _ _ ⟨x,R,I,S,rfl,rfl⟩;refine ZeM ?_;(refine DP (r2:=[HK x]) (ao rfl) rfl rfl (Aa rfl) (Aa rfl) rfl rfl ZgC ZgC rfl ZbB rfl ?_);exact Zfq
   .exact ZaV
 .exact ZaW
theorem A47(X:Rdr 263 (λx:RTm=>AL (rtC x)) (HO G0)):Rdl 262 263 (λL:List (RTm)=>slD 114 12 (L.map rtC)) (HO G0):=Rdl.intro λT l A=>by
 have G:=CX T l A;refine Bf Tryz.func262 rfl (Ag Tryz.func262 Zbz Zbz) rfl λC m=>?_;rw[Tryz.ntmps262];refine Zew ?_;rintro _ _ ⟨n,j,u,P,rfl,rfl⟩;refine Kr ?_;have h:=EH u;have o:=P.len;have K:=FQ (p:=(HO G0)) u;by_cases E:n<=j.length
 .rw [if_pos E]at K
  refine Wa<|Y0<|Aj<|Y1<|Wm<|Wm ?_;refine Wq (BI (ao rfl)) ?_;refine Wq AH ?_;refine Wq BN ?_;refine Wq (CT (ao rfl) (Aa rfl)) ?_;refine Wq (AD (r:=((j.length:Nat):Int)) (ao rfl) (Aa rfl) (Aa rfl) (DU Zbx)) ?_;refine Wq AR ?_;refine Y0<|Cf<|Ys<|Y1<|Wa<|Y0<|Aj<|Y1<|Wm<|Wm<|Y0<|AWp.block ?_
  refine DK 6 114 12 rfl ZbA ZbA rfl rfl ?_;refine AE (λF f=>∃k N c,k<=n/\F=n-k/\N.length=k/\Byt c/\(BQ (HO G0) n j=(BQ (HO G0) (n-k) c).map λy=>(N++y.1,y.2))/\f=⟨[(0,.ptr 0 0),(1,.fn (263+1000000) [0]),(6,.own 2),(18,.d (ex (.int .u64 (n:Nat)))),(19,.d (ex (.int .u64 (k:Nat))))],[.var 92 [.d (FC T c)],.pin [(m,.own 0)],.row 114 12 (N.map rtC)]⟩) ?le ⟨0,[],j,Nat.zero_le _,rfl,rfl,P,by cases BQ (HO G0) n j<;>rfl,rfl⟩ ?round
  case le=>exact ZhP
  case round=>
   rintro F _ ⟨k,N,c,B,rfl,V,O,Y,rfl⟩;by_cases Q:k<n
   .have G:=X T c O
    refine Zex ?_;rintro _ _ ⟨x,R,I,S,rfl,rfl⟩;refine ZeM ?_;(refine DP (r2:=[rtC x]) (ao rfl) rfl rfl (Aa rfl) (Aa rfl) rfl rfl ZgC ZgC rfl ZbB rfl ?_);exact Zfq
   .exact ZaV
 .exact ZaW
theorem A48(X:Rdr 185 (λx:List RTm=>IU x) (Gv G0)):Rdl 261 185 (λL:List (List RTm)=>slD 28 1 (L.map (λp=>[IU p]))) (Gv G0):=Rdl.intro λT l A=>by
 have G:=CX T l A;refine Bf Tryz.func261 rfl (Ag Tryz.func261 Zbz Zbz) rfl λC m=>?_;rw[Tryz.ntmps261];refine Zew ?_;rintro _ _ ⟨n,j,u,P,rfl,rfl⟩;refine Kr ?_;have h:=EH u;have o:=P.len;have K:=FQ (p:=(Gv G0)) u;by_cases E:n<=j.length
 .rw [if_pos E]at K
  refine Wa<|Y0<|Aj<|Y1<|Wm<|Wm ?_;refine Wq (BI (ao rfl)) ?_;refine Wq AH ?_;refine Wq BN ?_;refine Wq (CT (ao rfl) (Aa rfl)) ?_;refine Wq (AD (r:=((j.length:Nat):Int)) (ao rfl) (Aa rfl) (Aa rfl) (DU Zbx)) ?_;refine Wq AR ?_;refine Y0<|Cf<|Ys<|Y1<|Wa<|Y0<|Aj<|Y1<|Wm<|Wm<|Y0<|AWp.block ?_
  refine DK 6 28 1 rfl ZbA ZbA rfl rfl ?_;refine AE (λF f=>∃k N c,k<=n/\F=n-k/\N.length=k/\Byt c/\(BQ (Gv G0) n j=(BQ (Gv G0) (n-k) c).map λy=>(N++y.1,y.2))/\f=⟨[(0,.ptr 0 0),(1,.fn (185+1000000) [0]),(6,.own 2),(18,.d (ex (.int .u64 (n:Nat)))),(19,.d (ex (.int .u64 (k:Nat))))],[.var 92 [.d (FC T c)],.pin [(m,.own 0)],.row 28 1 (N.map (λp=>[IU p]))]⟩) ?le ⟨0,[],j,Nat.zero_le _,rfl,rfl,P,by cases BQ (Gv G0) n j<;>rfl,rfl⟩ ?round
  case le=>exact ZhP
  case round=>
   rintro F _ ⟨k,N,c,B,rfl,V,O,Y,rfl⟩;by_cases Q:k<n
   .have G:=X T c O
    refine Zex ?_;rintro _ _ ⟨x,R,I,S,rfl,rfl⟩;refine Kr ?_
    (refine CA rfl rfl ?_;(refine De (Aa rfl) (Aa rfl) rfl rfl rfl rfl rfl ?_;(repeat ((first | refine⟨_,As (ao rfl),?_⟩ | refine⟨_,Po rfl,?_⟩);refine⟨_,rfl,?_⟩));refine⟨_,rfl,?_⟩));(refine DP (r2:=[(λp=>[IU p]) x]) (ao rfl) rfl rfl (Aa rfl) (Aa rfl) rfl rfl ZgC ZgC rfl ZbB rfl ?_);exact Zfq
   .exact ZaV
 .exact ZaW
theorem A2r(X:Rdr 184 (λx:List (List RTm)=>HU x) (DZ G0)):Rdl 268 184 (λL:List (List (List RTm))=>slD 24 1 (L.map (λp=>[HU p]))) (DZ G0):=Rdl.intro λT l A=>by
 have G:=CX T l A;refine Bf Tryz.func268 rfl (Ag Tryz.func268 Zbz Zbz) rfl λC m=>?_;rw[Tryz.ntmps268];refine Zew ?_;rintro _ _ ⟨n,j,u,P,rfl,rfl⟩;refine Kr ?_;have h:=EH u;have o:=P.len;have K:=FQ (p:=(DZ G0)) u;by_cases E:n<=j.length
 .rw [if_pos E]at K
  refine Wa<|Y0<|Aj<|Y1<|Wm<|Wm ?_;refine Wq (BI (ao rfl)) ?_;refine Wq AH ?_;refine Wq BN ?_;refine Wq (CT (ao rfl) (Aa rfl)) ?_;refine Wq (AD (r:=((j.length:Nat):Int)) (ao rfl) (Aa rfl) (Aa rfl) (DU Zbx)) ?_;refine Wq AR ?_;refine Y0<|Cf<|Ys<|Y1<|Wa<|Y0<|Aj<|Y1<|Wm<|Wm<|Y0<|AWp.block ?_
  refine DK 6 24 1 rfl ZbA ZbA rfl rfl ?_;refine AE (λF f=>∃k N c,k<=n/\F=n-k/\N.length=k/\Byt c/\(BQ (DZ G0) n j=(BQ (DZ G0) (n-k) c).map λy=>(N++y.1,y.2))/\f=⟨[(0,.ptr 0 0),(1,.fn (184+1000000) [0]),(6,.own 2),(18,.d (ex (.int .u64 (n:Nat)))),(19,.d (ex (.int .u64 (k:Nat))))],[.var 92 [.d (FC T c)],.pin [(m,.own 0)],.row 24 1 (N.map (λp=>[HU p]))]⟩) ?le ⟨0,[],j,Nat.zero_le _,rfl,rfl,P,by cases BQ (DZ G0) n j<;>rfl,rfl⟩ ?round
  case le=>exact ZhP
  case round=>
   rintro F _ ⟨k,N,c,B,rfl,V,O,Y,rfl⟩;by_cases Q:k<n
   .have G:=X T c O
    refine Zex ?_;rintro _ _ ⟨x,R,I,S,rfl,rfl⟩;refine Kr ?_
    (refine CA rfl rfl ?_;(refine De (Aa rfl) (Aa rfl) rfl rfl rfl rfl rfl ?_;(repeat ((first | refine⟨_,As (ao rfl),?_⟩ | refine⟨_,Po rfl,?_⟩);refine⟨_,rfl,?_⟩));refine⟨_,rfl,?_⟩));(refine DP (r2:=[(λp=>[HU p]) x]) (ao rfl) rfl rfl (Aa rfl) (Aa rfl) rfl rfl ZgC ZgC rfl ZbB rfl ?_);exact Zfq
   .exact ZaV
 .exact ZaW
theorem A5B(X:Rdr 265 (λx:Nat->Int=>AL (Cr x)) (Qi G0)):Rdl 264 265 (λL:List (Nat->Int)=>slD 36 8 (L.map Cr)) (Qi G0):=Rdl.intro λT l A=>by
 have G:=CX T l A;refine Bf Tryz.func264 rfl (Ag Tryz.func264 Zbz Zbz) rfl λC m=>?_;rw[Tryz.ntmps264];refine Zew ?_;rintro _ _ ⟨n,j,u,P,rfl,rfl⟩;refine Kr ?_;have h:=EH u;have o:=P.len;have K:=FQ (p:=(Qi G0)) u;by_cases E:n<=j.length
 .rw [if_pos E]at K
  refine Wa<|Y0<|Aj<|Y1<|Wm<|Wm ?_;refine Wq (BI (ao rfl)) ?_;refine Wq AH ?_;refine Wq BN ?_;refine Wq (CT (ao rfl) (Aa rfl)) ?_;refine Wq (AD (r:=((j.length:Nat):Int)) (ao rfl) (Aa rfl) (Aa rfl) (DU Zbx)) ?_;refine Wq AR ?_;refine Y0<|Cf<|Ys<|Y1<|Wa<|Y0<|Aj<|Y1<|Wm<|Wm<|Y0<|AWp.block ?_
  refine DK 6 36 8 rfl ZbA ZbA rfl rfl ?_;refine AE (λF f=>∃k N c,k<=n/\F=n-k/\N.length=k/\Byt c/\(BQ (Qi G0) n j=(BQ (Qi G0) (n-k) c).map λy=>(N++y.1,y.2))/\f=⟨[(0,.ptr 0 0),(1,.fn (265+1000000) [0]),(6,.own 2),(18,.d (ex (.int .u64 (n:Nat)))),(19,.d (ex (.int .u64 (k:Nat))))],[.var 92 [.d (FC T c)],.pin [(m,.own 0)],.row 36 8 (N.map Cr)]⟩) ?le ⟨0,[],j,Nat.zero_le _,rfl,rfl,P,by cases BQ (Qi G0) n j<;>rfl,rfl⟩ ?round
  case le=>exact ZhP
  case round=>
   rintro F _ ⟨k,N,c,B,rfl,V,O,Y,rfl⟩;by_cases Q:k<n
   .have G:=X T c O
    refine Zex ?_;rintro _ _ ⟨x,R,I,S,rfl,rfl⟩;refine ZeM ?_;(refine DP (r2:=[Cr x]) (ao rfl) rfl rfl (Aa rfl) (Aa rfl) rfl rfl ZgC ZgC rfl ZbB rfl ?_);exact Zfq
   .exact ZaV
 .exact ZaW
theorem A6k(X:Rdr 192 (λx:RQ×RQ=>AL (KT x)) (Sr G0)):Rdl 191 192 (λL:List (RQ×RQ)=>slD 129 8 (L.map KT)) (Sr G0):=Rdl.intro λT l A=>by
 have G:=CX T l A;refine Bf Tryz.func191 rfl (Ag Tryz.func191 Zbz Zbz) rfl λC m=>?_;rw[Tryz.ntmps191];refine Zew ?_;rintro _ _ ⟨n,j,u,P,rfl,rfl⟩;refine Kr ?_;have h:=EH u;have o:=P.len;have K:=FQ (p:=(Sr G0)) u;by_cases E:n<=j.length
 .rw [if_pos E]at K
  refine Wa<|Y0<|Aj<|Y1<|Wm<|Wm ?_;refine Wq (BI (ao rfl)) ?_;refine Wq AH ?_;refine Wq BN ?_;refine Wq (CT (ao rfl) (Aa rfl)) ?_;refine Wq (AD (r:=((j.length:Nat):Int)) (ao rfl) (Aa rfl) (Aa rfl) (DU Zbx)) ?_;refine Wq AR ?_;refine Y0<|Cf<|Ys<|Y1<|Wa<|Y0<|Aj<|Y1<|Wm<|Wm<|Y0<|AWp.block ?_
  refine DK 6 129 8 rfl ZbA ZbA rfl rfl ?_;refine AE (λF f=>∃k N c,k<=n/\F=n-k/\N.length=k/\Byt c/\(BQ (Sr G0) n j=(BQ (Sr G0) (n-k) c).map λy=>(N++y.1,y.2))/\f=⟨[(0,.ptr 0 0),(1,.fn (192+1000000) [0]),(6,.own 2),(18,.d (ex (.int .u64 (n:Nat)))),(19,.d (ex (.int .u64 (k:Nat))))],[.var 92 [.d (FC T c)],.pin [(m,.own 0)],.row 129 8 (N.map KT)]⟩) ?le ⟨0,[],j,Nat.zero_le _,rfl,rfl,P,by cases BQ (Sr G0) n j<;>rfl,rfl⟩ ?round
  case le=>exact ZhP
  case round=>
   rintro F _ ⟨k,N,c,B,rfl,V,O,Y,rfl⟩;by_cases Q:k<n
   .have G:=X T c O
    refine Zex ?_;rintro _ _ ⟨x,R,I,S,rfl,rfl⟩;refine ZeM ?_;(refine DP (r2:=[KT x]) (ao rfl) rfl rfl (Aa rfl) (Aa rfl) rfl rfl ZgC ZgC rfl ZbB rfl ?_);exact Zfq
   .exact ZaV
 .exact ZaW
theorem A6i(X:Rdr 194 (λx:RQ×List RTm=>AL (Kw x)) (YC G0)):Rdl 193 194 (λL:List (RQ×List RTm)=>slD 184 5 (L.map Kw)) (YC G0):=Rdl.intro λT l A=>by
 have G:=CX T l A;refine Bf Tryz.func193 rfl (Ag Tryz.func193 Zbz Zbz) rfl λC m=>?_;rw[Tryz.ntmps193];refine Zew ?_;rintro _ _ ⟨n,j,u,P,rfl,rfl⟩;refine Kr ?_;have h:=EH u;have o:=P.len;have K:=FQ (p:=(YC G0)) u;by_cases E:n<=j.length
 .rw [if_pos E]at K
  refine Wa<|Y0<|Aj<|Y1<|Wm<|Wm ?_;refine Wq (BI (ao rfl)) ?_;refine Wq AH ?_;refine Wq BN ?_;refine Wq (CT (ao rfl) (Aa rfl)) ?_;refine Wq (AD (r:=((j.length:Nat):Int)) (ao rfl) (Aa rfl) (Aa rfl) (DU Zbx)) ?_;refine Wq AR ?_;refine Y0<|Cf<|Ys<|Y1<|Wa<|Y0<|Aj<|Y1<|Wm<|Wm<|Y0<|AWp.block ?_
  refine DK 6 184 5 rfl ZbA ZbA rfl rfl ?_;refine AE (λF f=>∃k N c,k<=n/\F=n-k/\N.length=k/\Byt c/\(BQ (YC G0) n j=(BQ (YC G0) (n-k) c).map λy=>(N++y.1,y.2))/\f=⟨[(0,.ptr 0 0),(1,.fn (194+1000000) [0]),(6,.own 2),(18,.d (ex (.int .u64 (n:Nat)))),(19,.d (ex (.int .u64 (k:Nat))))],[.var 92 [.d (FC T c)],.pin [(m,.own 0)],.row 184 5 (N.map Kw)]⟩) ?le ⟨0,[],j,Nat.zero_le _,rfl,rfl,P,by cases BQ (YC G0) n j<;>rfl,rfl⟩ ?round
  case le=>exact ZhP
  case round=>
   rintro F _ ⟨k,N,c,B,rfl,V,O,Y,rfl⟩;by_cases Q:k<n
   .have G:=X T c O
    refine Zex ?_;rintro _ _ ⟨x,R,I,S,rfl,rfl⟩;refine ZeM ?_;(refine DP (r2:=[Kw x]) (ao rfl) rfl rfl (Aa rfl) (Aa rfl) rfl rfl ZgC ZgC rfl ZbB rfl ?_);exact Zfq
   .exact ZaV
 .exact ZaW
theorem A6j(X:Rdr 196 (λx:Nat->RQ=>AL (Oz x)) (ptP G0)):Rdl 195 196 (λL:List (Nat->RQ)=>slD 187 32 (L.map Oz)) (ptP G0):=Rdl.intro λT l A=>by
 have G:=CX T l A;refine Bf Tryz.func195 rfl (Ag Tryz.func195 Zbz Zbz) rfl λC m=>?_;rw[Tryz.ntmps195];refine Zew ?_;rintro _ _ ⟨n,j,u,P,rfl,rfl⟩;refine Kr ?_;have h:=EH u;have o:=P.len;have K:=FQ (p:=(ptP G0)) u;by_cases E:n<=j.length
 .rw [if_pos E]at K
  refine Wa<|Y0<|Aj<|Y1<|Wm<|Wm ?_;refine Wq (BI (ao rfl)) ?_;refine Wq AH ?_;refine Wq BN ?_;refine Wq (CT (ao rfl) (Aa rfl)) ?_;refine Wq (AD (r:=((j.length:Nat):Int)) (ao rfl) (Aa rfl) (Aa rfl) (DU Zbx)) ?_;refine Wq AR ?_;refine Y0<|Cf<|Ys<|Y1<|Wa<|Y0<|Aj<|Y1<|Wm<|Wm<|Y0<|AWp.block ?_
  refine DK 6 187 32 rfl ZbA ZbA rfl rfl ?_;refine AE (λF f=>∃k N c,k<=n/\F=n-k/\N.length=k/\Byt c/\(BQ (ptP G0) n j=(BQ (ptP G0) (n-k) c).map λy=>(N++y.1,y.2))/\f=⟨[(0,.ptr 0 0),(1,.fn (196+1000000) [0]),(6,.own 2),(18,.d (ex (.int .u64 (n:Nat)))),(19,.d (ex (.int .u64 (k:Nat))))],[.var 92 [.d (FC T c)],.pin [(m,.own 0)],.row 187 32 (N.map Oz)]⟩) ?le ⟨0,[],j,Nat.zero_le _,rfl,rfl,P,by cases BQ (ptP G0) n j<;>rfl,rfl⟩ ?round
  case le=>exact ZhP
  case round=>
   rintro F _ ⟨k,N,c,B,rfl,V,O,Y,rfl⟩;by_cases Q:k<n
   .have G:=X T c O
    refine Zex ?_;rintro _ _ ⟨x,R,I,S,rfl,rfl⟩;refine ZeM ?_;(refine DP (r2:=[Oz x]) (ao rfl) rfl rfl (Aa rfl) (Aa rfl) rfl rfl ZgC ZgC rfl ZbB rfl ?_);exact Zfq
   .exact ZaV
 .exact ZaW
theorem A5E(X:Rdr 267 (λx:Nat->RQ×RQ=>AL (DB x)) (SC G0)):Rdl 266 267 (λL:List (Nat->RQ×RQ)=>slD 131 64 (L.map DB)) (SC G0):=Rdl.intro λT l A=>by
 have G:=CX T l A;refine Bf Tryz.func266 rfl (Ag Tryz.func266 Zbz Zbz) rfl λC m=>?_;rw[Tryz.ntmps266];refine Zew ?_;rintro _ _ ⟨n,j,u,P,rfl,rfl⟩;refine Kr ?_;have h:=EH u;have o:=P.len;have K:=FQ (p:=(SC G0)) u;by_cases E:n<=j.length
 .rw [if_pos E]at K
  refine Wa<|Y0<|Aj<|Y1<|Wm<|Wm ?_;refine Wq (BI (ao rfl)) ?_;refine Wq AH ?_;refine Wq BN ?_;refine Wq (CT (ao rfl) (Aa rfl)) ?_;refine Wq (AD (r:=((j.length:Nat):Int)) (ao rfl) (Aa rfl) (Aa rfl) (DU Zbx)) ?_;refine Wq AR ?_;refine Y0<|Cf<|Ys<|Y1<|Wa<|Y0<|Aj<|Y1<|Wm<|Wm<|Y0<|AWp.block ?_
  refine DK 6 131 64 rfl ZbA ZbA rfl rfl ?_;refine AE (λF f=>∃k N c,k<=n/\F=n-k/\N.length=k/\Byt c/\(BQ (SC G0) n j=(BQ (SC G0) (n-k) c).map λy=>(N++y.1,y.2))/\f=⟨[(0,.ptr 0 0),(1,.fn (267+1000000) [0]),(6,.own 2),(18,.d (ex (.int .u64 (n:Nat)))),(19,.d (ex (.int .u64 (k:Nat))))],[.var 92 [.d (FC T c)],.pin [(m,.own 0)],.row 131 64 (N.map DB)]⟩) ?le ⟨0,[],j,Nat.zero_le _,rfl,rfl,P,by cases BQ (SC G0) n j<;>rfl,rfl⟩ ?round
  case le=>exact ZhP
  case round=>
   rintro F _ ⟨k,N,c,B,rfl,V,O,Y,rfl⟩;by_cases Q:k<n
   .have G:=X T c O
    refine Zex ?_;rintro _ _ ⟨x,R,I,S,rfl,rfl⟩;refine ZeM ?_;(refine DP (r2:=[DB x]) (ao rfl) rfl rfl (Aa rfl) (Aa rfl) rfl rfl ZgC ZgC rfl ZbB rfl ?_);exact Zfq
   .exact ZaV
 .exact ZaW
def Suf{E:Type}(p:Rd E):Prop:=∀l x q,p l=some (x,q)->∃k,q=l.drop k
theorem Suf.byt(h:Suf vN)(F:vN l=some (vM,f))(L:Byt l):Byt f:=by
 obtain⟨k,rfl⟩:=h l vM f F;exact L.drop k
theorem Il:Suf (BT vM):=λl x q h=>by cases h;exact⟨0,rfl⟩
theorem Suf.bind{p:Rd j}{f:j->Rd uD}(h:Suf p)(A:∀a,Suf (f a)):Suf (p.bind f):=λl x q C=>by
 unfold Rd.bind at C
 cases F:p l with
 |none=>rw[F]at C;cases C
 |some y=>
  obtain⟨a,B⟩:=y;rw[F]at C;obtain⟨k,rfl⟩:=h l a B F;obtain⟨u,rfl⟩:=A a _ x q C;exact⟨k+u,by rw[List.drop_drop]⟩
theorem Suf.guard{c:List Nat->Bool}:Suf (Jm c):=λl x q h=>by
 unfold Jm at h;split at h
 .cases h;exact⟨0,rfl⟩
 .cases h
theorem Suf.rep{E:Type}{p:Rd E}(h:Suf p):∀n,Suf (BQ p n)
 |0=>Il
 |n+1=>h.bind λ_=>(Suf.rep h n).bind λ_=>Il
theorem TO:∀(k s n:Nat),Suf (Nt k s n)
 |0,_,_,_,_,_,h=>by cases h
 |k+1,s,n,[],_,_,h=>by cases h
 |k+1,s,n,c::l,x,q,h=>by
  rw[Nt]at h
  dsimp only at h
  split at h
  .cases h
  .split at h
   .cases h;exact⟨1,rfl⟩
   .obtain ⟨j,rfl⟩:=TO k _ _ l x q h
    exact⟨j+1,by simp⟩
theorem Sl:Suf Ns:=TO 10 1 0
theorem A09:Suf Ja:=λl x q h=>by
 unfold Ja at h;split at h
 .cases h;exact⟨4,rfl⟩
 .cases h
theorem TX(h:Suf vN):Suf (Ff G0 vN):=Suf.bind Sl λ_=>Suf.guard.bind λ_=>h.rep _
theorem Ss:Suf (OX G0):=Suf.bind Sl λ_=>Suf.guard.bind λ_=>(A09.rep _).bind λ_=>Il
theorem Xz:Suf (Fw G0):=Ss.bind λ_=>Ss.bind λ_=>Il
theorem Rdr.con{d:j->D}(h:Rdr vb d vN)(L:Byt l)(F:vN l=some (vM,f)):Con Tryz.prog vb [.ptr 0 0] (rH t l) [] (λr A=>r=.d (d vM)/\A=rH t f):=
 ((h t l L).con (by rw [F]; exact fun h => by cases h)).mono fun r A ⟨P, c, u, _, I, V⟩ => by
  rw[F]at u;cases u;exact⟨I,V⟩
theorem AI{o:Oper}{r:AV}(h:∃I,Quiet P H o vv I/\I=r):Quiet P H o vv r:=by
 obtain⟨I,u,rfl⟩:=h;exact u
theorem Ua(X:Rdr 270 (λx:RQ=>AL (HK x)) (Fw G0)):Rdr 192 (λx:RQ×RQ=>AL (KT x)) (Sr G0):=Rdr.intro λT l L=>by
 have G:=X T l L;refine Bf Tryz.func192 rfl (Ag Tryz.func192 Zbz Zbz) rfl λB m=>?_;rw[Tryz.ntmps192];refine ZeD ?_;rintro _ _ ⟨a,j,u,P,rfl,rfl⟩;refine ZeL ?_
 cases A:Fw G0 j with
 |none=>
  refine KQ 0 (.var 92 [.d (FC T j)]) 2 4 [3,2,1,0] [.d (AL (HK a)),.ptr 0 0,.d (AL (HK default)),.d (AL (KT (a,default)))] [[],[],[(7,1)],[(6,0),(8,2)]] [(3,.ptr 3 0),(0,.ptr 0 0)] Zbz rfl ⟨λ_=>rfl,(λH K=>by rw[List.mem_singleton.1 K];rfl)⟩ ⟨rfl,rfl,trivial⟩ rfl rfl Zbz (by refine DSteps.q rfl Zbv ?_;refine DSteps.q rfl Zbv ?_;refine DSteps.k rfl (DCallP.mk (λ_=>rfl) (X T j P)) ?_;refine DSteps.q rfl Zbv ?_;exact DSteps.nil) Zbz Zdf (λY=>(by repeat (first | exact AC (by unfold Sr;rw[Rd.some u];exact Rd.none Y) | apply Ar | apply PanQ.block | apply PanQ.loop):PanQ _ _))
 |some y=>
  obtain⟨c,C⟩:=y;refine KR 0 (.var 92 [.d (FC T j)]) (.var 92 [.d (FC T C)]) 2 4 [3,2,1,0] [.d (AL (HK a)),.ptr 0 0,.d (AL (HK c)),.d (AL (KT (a,c)))] [[],[],[(7,1)],[(6,0),(8,2)]] [(3,.ptr 3 0),(0,.ptr 0 0),(2,.ptr 2 0)] [(9,.d (AL (KT (a,c)))),(2,.ptr 2 0)] Zbz rfl ⟨λ_=>rfl,λ_=>rfl,(λH K=>by rw[List.mem_singleton.1 K];rfl)⟩ ⟨rfl,rfl,rfl,trivial⟩ rfl rfl Zbz Zbz (by refine DSteps.q rfl Zbv ?_;refine DSteps.q rfl Zbv ?_;refine DSteps.k rfl (DCall.mk (λ_=>rfl) (X.con P A)) ?_;refine DSteps.q rfl Zbv ?_;exact DSteps.nil) Zbz ⟨rfl,rfl,trivial⟩ [.var 92 [.d (FC T C)],.pin [(m,.own 0)],.var 129 ([ex (.bool false),ex (.slice none 0 0),ex (.bool false),ex (.slice none 0 0),ex (.bool false),ex (.slice none 0 0),ex (.bool false),ex (.slice none 0 0)].map .d),.var 111 ((HK a).map .d)] rfl ?_;refine Zey ?_;exact⟨(a,c),C,by unfold Sr;rw[Rd.some u,Rd.some A];rfl,Xz.byt A P,rfl,rfl⟩
def inC(x:Bool×List Nat):List D:=[ex (.bool x.1),wD x.2]
theorem Tu(i:Rdr 307 (λx:Bool×List Nat=>AL (inC x)) (OX G0)):Rdr 270 (λx:RQ=>AL (HK x)) (Fw G0):=Rdr.intro λT l L=>by
 have G:=i T l L;refine Bf Tryz.func270 rfl (Ag Tryz.func270 Zbz Zbz) rfl λB m=>?_;rw[Tryz.ntmps270];refine ZeD ?_;rintro _ _ ⟨a,j,u,P,rfl,rfl⟩;refine ZeL ?_
 cases A:(OX G0) j with
 |none=>
  refine KQ 0 (.var 92 [.d (FC T j)]) 2 4 [3,2,1,0] [.d (AL (inC a)),.ptr 0 0,.d (AL (inC (false,[]))),.d (AL (HK ⟨a.1,a.2,false,[]⟩))] [[],[],[(7,1)],[(6,0),(8,2)]] [(3,.ptr 3 0),(0,.ptr 0 0)] Zbz rfl ⟨λ_=>rfl,(λH K=>by rw[List.mem_singleton.1 K];rfl)⟩ ⟨rfl,rfl,trivial⟩ rfl rfl Zbz (by refine DSteps.q rfl Zbv ?_;refine DSteps.q rfl Zbv ?_;refine DSteps.k rfl (DCallP.mk (λ_=>rfl) (i T j P)) ?_;refine DSteps.q rfl Zbv ?_;exact DSteps.nil) Zbz Zdf (λY=>(by repeat (first | exact AC (by unfold Fw;rw[Rd.some u];exact Rd.none Y) | apply Ar | apply PanQ.block | apply PanQ.loop):PanQ _ _))
 |some y=>
  obtain⟨c,C⟩:=y;refine KR 0 (.var 92 [.d (FC T j)]) (.var 92 [.d (FC T C)]) 2 4 [3,2,1,0] [.d (AL (inC a)),.ptr 0 0,.d (AL (inC c)),.d (AL (HK ⟨a.1,a.2,c.1,c.2⟩))] [[],[],[(7,1)],[(6,0),(8,2)]] [(3,.ptr 3 0),(0,.ptr 0 0),(2,.ptr 2 0)] [(9,.d (AL (HK ⟨a.1,a.2,c.1,c.2⟩))),(2,.ptr 2 0)] Zbz rfl ⟨λ_=>rfl,λ_=>rfl,(λH K=>by rw[List.mem_singleton.1 K];rfl)⟩ ⟨rfl,rfl,rfl,trivial⟩ rfl rfl Zbz Zbz (by refine DSteps.q rfl Zbv ?_;refine DSteps.q rfl Zbv ?_;refine DSteps.k rfl (DCall.mk (λ_=>rfl) (i.con P A)) ?_;refine DSteps.q rfl Zbv ?_;exact DSteps.nil) Zbz ⟨rfl,rfl,trivial⟩ [.var 92 [.d (FC T C)],.pin [(m,.own 0)],.var 111 ([ex (.bool false),ex (.slice none 0 0),ex (.bool false),ex (.slice none 0 0)].map .d),.var 109 ((inC a).map .d)] rfl ?_;refine Zey ?_;exact⟨_,C,by unfold Fw;rw[Rd.some u,Rd.some A];rfl,Ss.byt A P,rfl,rfl⟩
theorem TA:Suf (Gv G0):=TX (Xz.bind λ_=>Suf.bind (Suf.bind (Suf.rep (Suf.bind Sl λn l x q h=>by(split at h<;>cases h);exact⟨0,rfl⟩) 8) λ_=>Il) λ_=>Il)
theorem YA(i:Rdr 270 (λx:RQ=>AL (HK x)) (Fw G0))(r:Rdr 185 (λx:List RTm=>IU x) (Gv G0)):Rdr 194 (λx:RQ×List RTm=>AL (Kw x)) (YC G0):=Rdr.intro λT l L=>by
 have G:=i T l L;refine Bf Tryz.func194 rfl (Ag Tryz.func194 Zbz Zbz) rfl λB m=>?_;rw[Tryz.ntmps194];refine ZeD ?_;rintro _ _ ⟨a,j,u,P,rfl,rfl⟩;refine ZeL ?_
 cases A:(Gv G0) j with
 |none=>
  refine KQ 0 (.var 92 [.d (FC T j)]) 2 4 [3,2,1,0] [.d (AL (HK a)),.ptr 0 0,.d (IU ([]:List RTm)),.d (AL (Kw (a,([]:List RTm))))] [[],[],[(7,1)],[(6,0),(8,2)]] [(3,.ptr 3 0),(0,.ptr 0 0)] Zbz rfl ⟨λ_=>rfl,(λH K=>by rw[List.mem_singleton.1 K];rfl)⟩ ⟨rfl,rfl,trivial⟩ rfl rfl Zbz (by refine DSteps.q rfl Zbv ?_;refine DSteps.q rfl Zbv ?_;refine DSteps.k rfl (DCallP.mk (λ_=>rfl) (r T j P)) ?_;refine DSteps.q rfl Zbv ?_;exact DSteps.nil) Zbz Zdf (λY=>(by repeat (first | exact AC (by unfold YC;rw[Rd.some u];exact Rd.none Y) | apply Ar | apply PanQ.block | apply PanQ.loop):PanQ _ _))
 |some y=>
  obtain⟨c,C⟩:=y;refine KR 0 (.var 92 [.d (FC T j)]) (.var 92 [.d (FC T C)]) 2 4 [3,2,1,0] [.d (AL (HK a)),.ptr 0 0,.d (IU c),.d (AL (Kw (a,c)))] [[],[],[(7,1)],[(6,0),(8,2)]] [(3,.ptr 3 0),(0,.ptr 0 0),(2,.ptr 2 0)] [(9,.d (AL (Kw (a,c)))),(2,.ptr 2 0)] Zbz rfl ⟨λ_=>rfl,λ_=>rfl,(λH K=>by rw[List.mem_singleton.1 K];rfl)⟩ ⟨rfl,rfl,rfl,trivial⟩ rfl rfl Zbz Zbz (by refine DSteps.q rfl Zbv ?_;refine DSteps.q rfl Zbv ?_;refine DSteps.k rfl (DCall.mk (λ_=>rfl) (r.con P A)) ?_;refine DSteps.q rfl Zbv ?_;exact DSteps.nil) Zbz ⟨rfl,rfl,trivial⟩ [.var 92 [.d (FC T C)],.pin [(m,.own 0)],.var 184 ([ex (.bool false),ex (.slice none 0 0),ex (.bool false),ex (.slice none 0 0),ex (.slice none 0 0)].map .d),.var 111 ((HK a).map .d)] rfl ?_;refine Zey ?_;exact⟨_,C,by unfold YC;rw[Rd.some u,Rd.some A];rfl,TA.byt A P,rfl,rfl⟩
theorem Qg(X:Rdr 270 (λx:RQ=>AL (HK x)) (Fw G0)):Rdr 269 (λL:List (RQ)=>Kf L) (RK G0):=Rdr.intro λT l A=>by
 have G:=A5C X T l A;refine Bf Tryz.func269 rfl (Ag Tryz.func269 Zbz Zbz) rfl λB m=>?_;rw[Tryz.ntmps269];exact Zgi
theorem A2x(X:Rdr 263 (λx:RTm=>AL (rtC x)) (HO G0)):Rdr 185 (λL:List (RTm)=>IU L) (Gv G0):=Rdr.intro λT l A=>by
 have G:=A47 X T l A;refine Bf Tryz.func185 rfl (Ag Tryz.func185 Zbz Zbz) rfl λB m=>?_;rw[Tryz.ntmps185];exact Zgi
theorem A0w(X:Rdr 185 (λx:List RTm=>IU x) (Gv G0)):Rdr 184 (λL:List (List RTm)=>HU L) (DZ G0):=Rdr.intro λT l A=>by
 have G:=A48 X T l A;refine Bf Tryz.func184 rfl (Ag Tryz.func184 Zbz Zbz) rfl λB m=>?_;rw[Tryz.ntmps184];exact Zgi
theorem Yw(X:Rdr 184 (λx:List (List RTm)=>HU x) (DZ G0)):Rdr 189 (λL:List (List (List RTm))=>Vd L) (LX G0):=Rdr.intro λT l A=>by
 have G:=A2r X T l A;refine Bf Tryz.func189 rfl (Ag Tryz.func189 Zbz Zbz) rfl λB m=>?_;rw[Tryz.ntmps189];exact Zgi
theorem A0C(X:Rdr 265 (λx:Nat->Int=>AL (Cr x)) (Qi G0)):Rdr 186 (λL:List (Nat->Int)=>EZ L) (Me G0):=Rdr.intro λT l A=>by
 have G:=A5B X T l A;refine Bf Tryz.func186 rfl (Ag Tryz.func186 Zbz Zbz) rfl λB m=>?_;rw[Tryz.ntmps186];exact Zgi
theorem A1n(X:Rdr 267 (λx:Nat->RQ×RQ=>AL (DB x)) (SC G0)):Rdr 188 (λL:List (Nat->RQ×RQ)=>Gf L) (Mp G0):=Rdr.intro λT l A=>by
 have G:=A5E X T l A;refine Bf Tryz.func188 rfl (Ag Tryz.func188 Zbz Zbz) rfl λB m=>?_;rw[Tryz.ntmps188];exact Zgi
end
end Go.Proofs.YtcikkglcoeedlaaGreat
