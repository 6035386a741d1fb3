/- Texts of one road. -/
import Derived.Test.YthebagfahkebiaaGreatRAE
set_option linter.all false
set_option maxHeartbeats 8000000
set_option maxRecDepth 20000
namespace Go.Proofs.YthebagfahkebiaaGreat
open Go Go.Sl Go.Proofs.Tryz List
variable{n:Nat}
def PN:∀(i n:Nat),(i=0\/1<=n/128^i)->∃pre,pre.length=i/\Ed n=pre++Ed (n/128^i):=by
 intro i
 induction i with
 |zero=>intro n _;exact⟨[],rfl,by simp⟩
 |succ i ih=>
  intro n h;have h1:1<=n/128^(i+1):=by omega
  have h2: ¬n<128:=by
   intro hlt;have:n/128^(i+1)=0:=Nat.div_eq_of_lt (Nat.lt_of_lt_of_le hlt (by rw[Nat.pow_succ];exact Nat.le_mul_of_pos_left _ (Nat.pow_pos (by decide))));omega
  have h3:n/128/128^i=n/128^(i+1):=by rw[Nat.div_div_eq_div_mul,Nat.pow_succ,Nat.mul_comm]
  obtain⟨pre,hp,he⟩:=ih (n/128) (.inr (by rw[h3];exact h1));refine⟨UInt8.ofNat (128+n% 128)::pre,by simp[hp],?_⟩;rw[Qo h2,he,h3];rfl
def vT(i:Nat):2^(7*i)=128^i:=by rw[Nat.pow_mul]
def le8{i:Nat}(hn:n<=4611686018427387904)(h:i=0\/1<=n/128^i):i<=8:=by
 rcases h with h|h
 .omega
 .have h1:128^i<=n:=by
   have:=Nat.div_mul_le_self n (128^i);exact Nat.le_trans (Nat.le_mul_of_pos_left _ h) this
  rcases Nat.lt_or_ge 8 i with h2|h2
  .have:128^9<=128^i:=Nat.pow_le_pow_right (by decide) h2;omega
  .exact h2
def WW{C:Cd}{v:Value}{h:Hp}(hs:Rs C.b v h)(hn:n<=4611686018427387904){rest:List UInt8}(hd:C.b.drop C.p=Ed n++rest)(hl:C.b.length<=1099511627776){c:Nat}:
  Ct prog 312 [c] [Pr c C v,h] (λr H'=>r= .int .i64 (n:Int)/\H'=[Pr c {C with p:=C.p+(Ed n).length} v,h]):=by
 obtain⟨B,p,rd,bad,arg,Bd⟩:=C;simp only[] at hs hd hl⊢;refine ce func312 λg R=>?_;repeat' first|refine rn ?_|refine W.lq 0 rfl ?_
 refine W.as 3 (.int .u64 ((n% 128^0:Nat):Int)) rfl (by rw[Nat.pow_zero,Nat.mod_one];rfl) ?_;refine W.lo (α:=Nat) (λi=>i=0\/1<=n/128^i) (λi=>[(0,c),(3,.int .u64 ((n% 128^i:Nat):Int)),(4,.int .i64 (i:Int))]) (λi=>[dr c v (p+i) rd bad arg Bd,h,R]) (λi=>9 - i) 0 (.inl rfl) ?_;intro i hi;have K8:=le8 hn hi;obtain⟨pre,DO,hpe⟩:=PN i n hi;have hlen:(Ed n).length=i+(Ed (n/128^i)).length:=by rw[hpe,Eb,DO]
 have Sp:B.drop (p+i)=Ed (n/128^i)++rest:=by
  rw[<-drop_drop,hd,hpe,Sc,drop_append_of_le_length (by omega),<-DO,drop_length];rfl
 have hpi:p+i<B.length:=by
  have:=congrArg List.length Sp;rw[length_drop,Eb] at this;have:=Eu (n/128^i);omega
 have hmn:n% 128^i<=n:=Nat.mod_le _ _;have hsu:n% 128^(i+1)=n% 128^i+n/128^i% 128*2^(7*i):=by rw[vT,Nat.pow_succ,Nat.mod_mul,Nat.mul_comm (128^i)]
 have N8:n% 128^(i+1)<=n:=Nat.mod_le _ _;have hb:n/128^i% 128*2^(7*i)<=4611686018427387904:=by omega
 have h7:7*i<=IntKind.u64.bits:=by show 7*i<=64;omega
 generalize hm:n/128^i=m at*;obtain⟨x,hx⟩:=Lh hpi;have hx0:(Ed m++rest)[0]? =some x:=by rw[<-Sp,List.getElem?_drop];exact hx
 by_cases hge:m<128
 .have IQ:x.toNat=m:=by
   rw[mg hge] at hx0;have:UInt8.ofNat m=x:=by simpa using hx0
   rw[<-this,Of (by omega)]
  have VA:n% 128^(i+1)=n:=by
   refine Nat.mod_eq_of_lt ?_;rw[Nat.pow_succ,Nat.mul_comm,<-Nat.div_lt_iff_lt_mul (Nat.pow_pos (by decide)),hm];exact hge
  have cg:(Ed n).length=i+1:=by rw[hlen,mg hge];rfl
  by_cases hm0:m=0
  .have CQ:i=0:=by omega
   try refine run ?_
   refine wr ?_;refine wq ?_;repeat' first|refine run ?_|refine WX.rem rfl rfl rfl (by decide) ?_
   refine WX.as 39 (.int .u8 ((m% 128:Nat):Int)) rfl (by rw[IQ,show((128:Int))=((128:Nat):Int) from rfl,<-Int.ofNat_tmod]) ?_;refine WX.conv rfl rfl (IntWalk.u64_in _ (by omega)) ?_;repeat' first|refine run ?_|refine WX.mul rfl rfl rfl (by omega) ?_
   refine WX.as 42 (.int .i64 ((7*i:Nat):Int)) rfl (by congr 1) ?_;refine WX.MP rfl rfl h7 (IntWalk.u64_in _ ⟨Int.natCast_nonneg _,Int.le_trans (Int.ofNat_le.2 hb) (by decide)⟩) rfl ?_;refine WX.rW rfl rfl rfl ?_;refine WX.as 44 (.int .u64 ((n% 128^(i+1):Nat):Int)) rfl (by rw[<-Int.natCast_add,<-hsu];exact congrArg _ (IntWalk.u64_in _ (by omega))) ?_;repeat' first|refine run ?_|refine WX.conv rfl rfl (IntWalk.i64_in _ (by omega)) ?_
   rw[show(((p+i:Nat):Int)+1)=((p+(i+1):Nat):Int) from rfl,cg];exact Xa [dr c v (p+(i+1)) rd bad arg Bd,h] rfl rfl ⟨by rw[VA],rfl⟩
  .try refine run ?_
   refine wr ?_;refine wq ?_;repeat' first|refine run ?_|refine WX.rem rfl rfl rfl (by decide) ?_
   refine WX.as 39 (.int .u8 ((m% 128:Nat):Int)) rfl (by rw[IQ,show((128:Int))=((128:Nat):Int) from rfl,<-Int.ofNat_tmod]) ?_;refine WX.conv rfl rfl (IntWalk.u64_in _ (by omega)) ?_;repeat' first|refine run ?_|refine WX.mul rfl rfl rfl (by omega) ?_
   refine WX.as 42 (.int .i64 ((7*i:Nat):Int)) rfl (by congr 1) ?_;refine WX.MP rfl rfl h7 (IntWalk.u64_in _ ⟨Int.natCast_nonneg _,Int.le_trans (Int.ofNat_le.2 hb) (by decide)⟩) rfl ?_;refine WX.rW rfl rfl rfl ?_;refine WX.as 44 (.int .u64 ((n% 128^(i+1):Nat):Int)) rfl (by rw[<-Int.natCast_add,<-hsu];exact congrArg _ (IntWalk.u64_in _ (by omega))) ?_;repeat' first|refine run ?_|refine WX.conv rfl rfl (IntWalk.i64_in _ (by omega)) ?_
   rw[show(((p+i:Nat):Int)+1)=((p+(i+1):Nat):Int) from rfl,cg];exact Xa [dr c v (p+(i+1)) rd bad arg Bd,h] rfl rfl ⟨by rw[VA],rfl⟩
 .have IQ:x.toNat=128+m% 128:=by
   rw[Qo hge] at hx0;have:UInt8.ofNat (128+m% 128)=x:=by simpa using hx0
   rw[<-this,Of (by omega)]
  try refine run ?_
  refine wr ?_;refine wq ?_;repeat' first|refine run ?_|refine WX.rem rfl rfl rfl (by decide) ?_
  refine WX.as 39 (.int .u8 ((m% 128:Nat):Int)) rfl (by rw[IQ,show((128:Int))=((128:Nat):Int) from rfl,<-Int.ofNat_tmod];congr 1;omega) ?_;refine WX.conv rfl rfl (IntWalk.u64_in _ (by omega)) ?_;repeat' first|refine run ?_|refine WX.mul rfl rfl rfl (by omega) ?_
  refine WX.as 42 (.int .i64 ((7*i:Nat):Int)) rfl (by congr 1) ?_;refine WX.MP rfl rfl h7 (IntWalk.u64_in _ ⟨Int.natCast_nonneg _,Int.le_trans (Int.ofNat_le.2 hb) (by decide)⟩) rfl ?_;refine WX.rW rfl rfl rfl ?_;refine WX.as 44 (.int .u64 ((n% 128^(i+1):Nat):Int)) rfl (by rw[<-Int.natCast_add,<-hsu];exact congrArg _ (IntWalk.u64_in _ (by omega))) ?_;try refine run ?_
  rw[show(((p+i:Nat):Int)+1)=((p+(i+1):Nat):Int) from rfl];exact D.rd (i+1) (.inr (by rw[Nat.pow_succ,<-Nat.div_div_eq_div_mul,hm];omega)) (by omega)
variable{n:Int}
inductive It where
 |num (o:Nat)
 |Bj (o most:Nat)
 |Xn (o:Nat)
def It.o:It->Nat
 | .num o=>o
 | .Bj o _=>o
 | .Xn o=>o
def HX:It->Value->Prop
 | .num _,u=>∃n:Int,u= .int .i64 n
 | .Bj _ _,u=>∃s:ByteArray,u= .string s
 | .Xn _,u=>∃t:Bool,u= .bool t
def encI:It->Value->Option (List UInt8)
 | .num _,.int .i64 n=>if n<0\/4611686018427387904<n then none else some (Ed n.toNat)
 | .Bj _ _,.string s=>some (Ed s.data.toList.length++s.data.toList)
 | .Xn _,.bool t=>some (Ed (if t=true then 1 else 0))
 |_,_=>none
def Ij:It->Value->Bool
 | .Bj _ most,.string s=>decide (most<s.data.toList.length)
 |_,_=>false
theorem Eh{o:Nat}:encI (.num o) (n)=if n<0\/4611686018427387904<n then none else some (Ed n.toNat):=rfl
theorem lQ{o:Nat}:Ij (.num o) (n)=false:=rfl
inductive Ux:Cd->List Value->It->Cd->List Value->Prop
 |w {C:Cd} {vs:List Value} {it:It} {u:Value} (hr:C.rd=false) (hv:vs[it.o]? =some u) (ok:HX it u):Ux C vs it {C with b:=C.b++(encI it u).getD [],arg:=C.arg||(encI it u).isNone,Bd:=C.Bd||Ij it u} vs
 |r {C:Cd} {vs:List Value} {it:It} {u u0:Value} {e rest:List UInt8} (hr:C.rd=true) (hv:vs[it.o]? =some u0) (Pq:HX it u0) (ok:HX it u) (he:encI it u=some e) (hd:C.b.drop C.p=e++rest):
  Ux C vs it {C with p:=C.p+e.length} (vs.set it.o u)
structure Tp(C:Cd)(v:Value)(h:Hp):Prop where
 r:C.rd=true->Rs C.b v h
 w:C.rd=false->ia 5 C.b v h
 l:C.b.length<=1099511627776
def Cd.OZ(C:Cd)(n:Int){o:Nat}:C.num n={C with b:=C.b++(encI (.num o) (n)).getD [],arg:=C.arg||(encI (.num o) (n)).isNone,Bd:=C.Bd||Ij (.num o) (n)}:=by
 unfold Cd.num;rw[Eh,lQ];obtain⟨B,p,rd,bad,arg,Bd⟩:=C;by_cases h:n<0\/4611686018427387904<n
 .rw[if_pos h,if_pos h];simp
 .rw[if_neg h,if_neg h];simp
def Xm{C C':Cd}{vs vs':List Value}{o:Nat}(hst:Ux C vs (.num o) C' vs'){v:Value}{h:Hp}(hok:Tp C v h)(hl:C'.b.length<=1099511627776){c b T:Nat}:
  Ct prog 277 [c,.pointer (some ⟨b,o,none⟩)] [Pr c C v,[(b,.cells vs.toArray T (0,0))],h] (λ_ H'=>∃v' h',H'=[Pr c C' v',[(b,.cells vs'.toArray T (0,0))],h']/\Tp C' v' h'/\(C.rd=true->v'=v/\h'=h)):=by
 cases hst with
 | @w u hr hv ok=>
  obtain⟨n,rfl⟩:=ok;rw[<-Cd.OZ] at hl⊢;refine Ct.mono (QW hr (hok.w hr) hv hok.l) ?_;rintro r H' ⟨v',h',rfl,hs⟩;have hrd:(C.num n).rd=C.rd:=by unfold Cd.num;split<;>rfl
  exact⟨v',h',rfl,⟨λe=>(by rw[hrd,hr] at e;cases e),λ_=>hs,hl⟩,λe=>by rw[hr] at e;cases e⟩
 | @r u u0 e rest hr hv Pq ok he hd=>
  obtain⟨n,rfl⟩:=ok;obtain⟨n0,rfl⟩:=Pq;have hv:vs[o]? =some (n0):=hv;have hne: ¬(n<0\/4611686018427387904<n):=λhc=>by rw[Eh,if_pos hc] at he;cases he
  have he:e=Ed n.toNat:=by rw[Eh,if_neg hne] at he;exact(Option.some.inj he).symm
  subst he;obtain⟨m,rfl⟩:∃m:Nat,n=(m:Int):=⟨n.toNat,by omega⟩;rw[Int.toNat_natCast] at hd hl⊢;have ht:=WW (c:=c) (hok.r hr) (n:=m) (by omega) hd hok.l;obtain⟨B,p,rd,bad,arg,Bd⟩:=C;simp only[] at hr hl ht hok⊢;subst hr;have hlt:Nat.blt o vs.length=true:=Nat.ble_eq_true_of_le (List.getElem?_eq_some_iff.1 hv).1
  refine Ct.pack (pre:=[dr c v p true bad arg Bd,[(b,.cells vs.toArray T (0,0))],h]) (post:=λr H'=>H'=[dr c v (p+(Ed m).length) true bad arg Bd,[(b,.cells (vs.set o (.int .i64 (m:Int))).toArray T (0,0))],h]) ?_ rfl
   (λr H' e=>⟨_,rfl,v,h,e,⟨λ_=>hok.r rfl,λe=>(by cases e),hl⟩,λ_=>⟨rfl,rfl⟩⟩)
  have ht:Ct prog 312 [c] [dr c v p true bad arg Bd,h] (λr H'=>r= .int .i64 (m:Int)/\H'=[dr c v (p+(Ed m).length) true bad arg Bd,h]):=ht;refine Tk func277 λg R=>?_;refine ck ht ?_;rintro _ _ ⟨rfl,rfl⟩;repeat' first|refine rn ?_|refine WX.store rfl rfl rfl hlt ?_
  exact D.ri [dr c v (p+(Ed m).length) true bad arg Bd,[(b,.cells (vs.set o (.int .i64 (m:Int))).toArray T (0,0))],h] _ rfl rfl
variable{C C':Cd}{vs vs':List Value}
inductive qj:Cd->List Value->List It->Cd->List Value->Prop
 |nil {C:Cd} {vs:List Value}:qj C vs [] C vs
 |cons {C C1 C2:Cd} {vs tM SU:List Value} {it:It} {Zc:List It} (h:Ux C vs it C1 tM) (t:qj C1 tM Zc C2 SU):qj C vs (it::Zc) C2 SU
def Ux.facts{it:It}(h:Ux C vs it C' vs'):C'.rd=C.rd/\C.b.length<=C'.b.length/\vs'.length=vs.length/\(C.rd=true->C'.b=C.b)/\(C.rd=false->vs'=vs):=by
 cases h with
 |w hr hv ok=>exact⟨rfl,by simp,rfl,λe=>(by rw[hr] at e;cases e),λ_=>rfl⟩
 |r hr hv Pq ok he hd=>exact⟨rfl,Nat.le_refl _,by simp,λ_=>rfl,λe=>(by rw[hr] at e;cases e)⟩
def qj.facts{C C':Cd}{vs vs':List Value}{Zc:List It}(h:qj C vs Zc C' vs'):C'.rd=C.rd/\C.b.length<=C'.b.length/\vs'.length=vs.length/\(C.rd=true->C'.b=C.b)/\(C.rd=false->vs'=vs):=by
 induction h with
 |nil=>exact⟨rfl,Nat.le_refl _,rfl,λ_=>rfl,λ_=>rfl⟩
 |cons h t ih=>
  obtain⟨a1,a2,a3,a4,a5⟩:=h.facts;obtain⟨b1,b2,b3,b4,b5⟩:=ih;exact⟨b1.trans a1,Nat.le_trans a2 b2,b3.trans a3,λe=>(b4 (a1.trans e)).trans (a4 e),λe=>(b5 (a1.trans e)).trans (a5 e)⟩
def qj.split{C2:Cd}{SU:List Value}{is1 is2:List It}(h:qj C vs (is1++is2) C2 SU):∃C1 tM,qj C vs is1 C1 tM/\qj C1 tM is2 C2 SU:=by
 induction is1 generalizing C vs with
 |nil=>exact⟨C,vs,.nil,h⟩
 |cons i r ih=>
  cases h with
  |cons h t=>
   obtain⟨C1,tM,h1,h2⟩:=ih t;exact⟨C1,tM,.cons h h1,h2⟩
abbrev Fx(c b T:Nat)(C C':Cd)(v:Value)(h:Hp)(vs':List Value)(X:HH):Value->HH->Prop:=
 λ_ H'=>∃v' h',H'=Pr c C' v'::[(b,.cells vs'.toArray T (0,0))]::h'::X/\Tp C' v' h'/\(C.rd=true->v'=v/\h'=h)
structure Pv where
 b:Nat
 o:Nat
instance:Qb Pv:=⟨1,λs=>[.pointer (some ⟨s.b,s.o,none⟩)],λ_=>rfl,λ_=>rfl,by decide⟩
def Zo{os:List Nat}(hrun:qj C vs (os.map .num) C' vs'){v:Value}{h:Hp}(hok:Tp C v h)(hl:C'.b.length<=1099511627776){c b T:Nat}
  {u:Value}{hu:Hp}(hps:Rs (os.map (Pv.mk b)) u hu)(hn:os.length<=1099511627776):
  Ct prog 313 [c,u] [Pr c C v,[(b,.cells vs.toArray T (0,0))],h,hu] (Fx c b T C C' v h vs' [hu]):=by
 have kz:(os.map (Pv.mk b)).length=os.length:=bf _;refine Tk func313 λg R=>?_
 refine W.lo (α:=Nat×Cd×List Value×Value×Hp) (λx=>x.1<=os.length/\qj x.2.1 x.2.2.1 ((os.drop x.1).map .num) C' vs'/\Tp x.2.1 x.2.2.2.1 x.2.2.2.2/\x.2.1.rd=C.rd/\(C.rd=true->x.2.2.2.1=v/\x.2.2.2.2=h))
  (λx=>[(0,c),(6,u),(7,.int .i64 ((os.map (Pv.mk b)).length:Int)),(8,.int .i64 (x.1:Int))])
  (λx=>[Pr c x.2.1 x.2.2.2.1,[(b,.cells x.2.2.1.toArray T (0,0))],x.2.2.2.2,hu,R]) (λx=>os.length - x.1) (0,C,vs,v,h) ⟨di _,hrun,hok,rfl,λ_=>⟨rfl,rfl⟩⟩ ?_
 rintro⟨k,Dk,ws,y,hy⟩ ⟨hk,hr,ok,hrd,hkeep⟩;simp only[] at hk hr ok hrd hkeep⊢;by_cases hlt:k<os.length
 .obtain⟨o,ho⟩:=Lh hlt;obtain⟨h1,h2⟩:=List.getElem?_eq_some_iff.1 ho;have hpk:(os.map (Pv.mk b))[k]? =some ⟨b,o⟩:=by rw[List.getElem?_map,ho];rfl
  rw[drop_eq_getElem_cons h1,h2,map_cons] at hr
  cases hr with
  | @cons _ D1 _ _ m5 _ _ _ hst ht=>
   have hf:=hst.facts;have ic:=Xm (c:=c) (b:=b) (T:=T) hst ok (Nat.le_trans ht.facts.2.1 hl);try refine run ?_
   refine ck ic ?_;rintro _ _ ⟨y',hy',rfl,Vu,hk'⟩;refine rn ?_
   exact D.round (k+1,D1,m5,y',hy') ⟨by omega,ht,Vu,hf.1.trans hrd,λe=>by
    obtain⟨e1,e2⟩:=hk' (hrd.trans e);obtain⟨e3,e4⟩:=hkeep e;exact⟨e1.trans e3,e2.trans e4⟩⟩ (by simp only[];omega) (by repeat(first|exact Aa.nil|refine Aa.cons rfl ?_)) (Ia.qa inferInstance)
 .obtain rfl:k=os.length:=by omega
  rw[drop_length] at hr;cases hr;try refine run ?_
  exact D.fc [Pr c C' y,[(b,.cells vs'.toArray T (0,0))],hy,hu] _ rfl ⟨y,hy,rfl,ok,hkeep⟩
def bit(t:Bool):Nat:=if t=true then 1 else 0
def FK(t:Bool):encI (.num 0) (.int .i64 (bit t:Nat))=some (Ed (bit t)):=by
 rw[Eh,if_neg (by cases t<;>decide)];rfl
theorem sU{o:Nat}(t:Bool):encI (.Xn o) (.bool t)=some (Ed (bit t)):=rfl
def tU{o:Nat}{u:Value}(h:vs[o]? =some u):vs.set o u=vs:=by
 obtain⟨h1,h2⟩:=List.getElem?_eq_some_iff.1 h;rw[<-h2];exact set_getElem_self h1
def mQ{o:Nat}(h:Ux C vs (.Xn o) C' vs'):
  ∃(t0 t:Bool) (n0 n:Int),n0=(if t0=true then 1 else 0)/\n=(if t=true then 1 else 0)/\vs[o]? =some (.bool t0)/\Ux C [n0] (.num 0) C' [n]/\vs'=vs.set o (.bool t):=by
 have hb:∀t:Bool,((bit t:Nat):Int)=(if t=true then 1 else 0):=λt=>by cases t<;>rfl
 cases h with
 | @w u hr hv ok=>
  obtain⟨t,rfl⟩:=ok;refine⟨t,t,_,_,hb t,hb t,hv,?_,(tU hv).symm⟩;have:=Ux.w (C:=C) (vs:=[.int .i64 (bit t:Nat)]) (it:= .num 0) hr rfl ⟨_,rfl⟩;rw[FK] at this
  exact this
 | @r u u0 e rest hr hv Pq ok he hd=>
  obtain⟨t,rfl⟩:=ok;obtain⟨t0,rfl⟩:=Pq;refine⟨t0,t,_,_,hb t0,hb t,hv,?_,rfl⟩;rw[sU] at he;exact Ux.r (vs:=[.int .i64 (bit t0:Nat)]) (it:= .num 0) (u:= .int .i64 (bit t:Nat)) hr rfl ⟨_,rfl⟩ ⟨_,rfl⟩ (by rw[FK];exact he) hd
def GK{o:Nat}(hst:Ux C vs (.Xn o) C' vs'){v:Value}{h:Hp}(hok:Tp C v h)(hl:C'.b.length<=1099511627776){c b T:Nat}:
  Ct prog 315 [c,.pointer (some ⟨b,o,none⟩)] [Pr c C v,[(b,.cells vs.toArray T (0,0))],h] (Fx c b T C C' v h vs' []):=by
 obtain⟨t0,t,n0,n,e0,e1,hv,hn,rfl⟩:=mQ hst;have hlt:Nat.blt o vs.length=true:=Nat.ble_eq_true_of_le (List.getElem?_eq_some_iff.1 hv).1;obtain⟨B',p',rd',o5,arg',u5⟩:=C';refine ce func315 λg R=>?_;simp only[can];cases t0<;>simp only[if_true,if_false,Bool.false_eq_true] at e0<;>subst e0
 all_goals
  repeat' first|refine run ?_|refine al λ_=>?_|refine WX.load rfl hv rfl ?_
  rename_i nb;refine ck (Xm (c:=c) (b:=nb) (T:=3) hn hok hl) ?_;rintro _ _ ⟨v1,h1,rfl,Qi,Mp⟩;simp only[can];refine WX.flat (H':=[dr c v1 p' rd' o5 arg' u5,_,h1,_,_]) rfl ?_;cases t<;>simp only[if_true,if_false,Bool.false_eq_true] at e1<;>subst e1<;>cases o5
 all_goals
  repeat' first|refine run ?_|refine WX.store rfl rfl rfl hlt ?_
 all_goals
  try rw[show decide ((1:Int)=1)=true from rfl]
  try rw[show decide ((0:Int)=1)=false from rfl]
  try rw[show decide ((1:Int)<1)=false from rfl]
  try rw[show decide ((1:Int)<0)=false from rfl]
  exact D.fc _ _ rfl ⟨v1,h1,rfl,Qi,Mp⟩
variable{most:Nat}
def w5{o:Nat}(h:Ux C vs (.Bj o most) C' vs')(hr:C.rd=false)(hl:C'.b.length<=1099511627776):
  ∃(s:ByteArray) (C1:Cd),vs[o]? =some (.string s)/\vs'=vs/\Ux C [.int .i64 (s.size:Int)] (.num 0) C1 [.int .i64 (s.size:Int)]/\C'={C1 with b:=C1.b++s.data.toList,Bd:=C1.Bd||decide (most<s.size)}:=by
 cases h with
 | @r u u0 e rest hr' hv Pq ok he hd=>rw[hr] at hr';cases hr'
 | @w u hr' hv ok=>
  obtain⟨s,rfl⟩:=ok
  have Ue:s.size<=1099511627776:=by
   have e1:s.data.toList.length=s.size:=rfl;simp only[encI,Option.getD_some,Eb,e1] at hl;omega
  have hw:=Ux.w (C:=C) (vs:=[.int .i64 (s.size:Int)]) (it:= .num 0) hr rfl ⟨_,rfl⟩;have he:encI (.num 0) (.int .i64 (s.size:Int))=some (Ed s.size):=by rw[Eh,if_neg (by omega)];rfl
  rw[he] at hw;refine⟨s,_,hv,rfl,hw,?_⟩;simp only[encI,Ij,Option.getD_some,Option.isNone_some,Bool.or_false,Sc];rfl
def x5{o:Nat}(h:Ux C vs (.Bj o most) C' vs')(hr:C.rd=true)(hl:C.b.length<=1099511627776){s0:ByteArray}(Z5:vs[o]? =some (.string s0)):
  ∃(s:ByteArray) (C1:Cd) (rest:List UInt8),vs'=vs.set o (.string s)/\Ux C [.int .i64 (s0.size:Int)] (.num 0) C1 [.int .i64 (s.size:Int)]/\C1.b.drop C1.p=s.data.toList++rest/\C1.b=C.b/\C1.p<=C1.b.length/\C'={C1 with p:=C1.p+s.size}:=by
 cases h with
 | @w u hr' hv ok=>rw[hr] at hr';cases hr'
 | @r u u0 e rest hr' hv Pq ok he hd=>
  obtain⟨s,rfl⟩:=ok;have he':e=Ed s.size++s.data.toList:=(Option.some.inj he).symm;subst he'
  have Ue:s.size<=1099511627776:=by
   have e1:s.data.toList.length=s.size:=rfl;have:=congrArg List.length hd;rw[length_drop,Eb,Eb,e1] at this;omega
  have hs:encI (.num 0) (.int .i64 (s.size:Int))=some (Ed s.size):=by rw[Eh,if_neg (by omega)];rfl
  rw[Sc] at hd;refine⟨s,_,rest,rfl,Ux.r (C:=C) (vs:=[.int .i64 (s0.size:Int)]) (it:= .num 0) hr rfl ⟨_,rfl⟩ ⟨_,rfl⟩ hs hd,?_,rfl,?_,?_⟩
  .simp only[];rw[<-drop_drop,hd,drop_left]
  .have:=congrArg List.length hd;rw[length_drop,Eb] at this;have:=Eu s.size;simp only[];omega
  .simp only[Eb];rw[Nat.add_assoc];rfl
def Ux.faa{o:Nat}(h:Ux C vs (.Bj o most) C' vs'):∃s0:ByteArray,vs[o]? =some (.string s0):=by
 cases h with
 |w hr' hv ok=>obtain⟨s,rfl⟩:=ok;exact⟨s,hv⟩
 |r hr' hv Pq ok he hd=>obtain⟨s,rfl⟩:=Pq;exact⟨s,hv⟩
def gO{o:Nat}(hst:Ux C vs (.Bj o most) C' vs'){v:Value}{h:Hp}(hok:Tp C v h)(hl:C'.b.length<=1099511627776){c b T:Nat}:
  Ct prog 314 [.pointer (some ⟨c,0,none⟩),.pointer (some ⟨b,o,none⟩),.int .i64 (most:Int)] [Pr c C v,[(b,.cells vs.toArray T (0,0))],h] (Fx c b T C C' v h vs' []):=by
 obtain⟨s0,hv⟩:=hst.faa;have hlt:Nat.blt o vs.length=true:=Nat.ble_eq_true_of_le (List.getElem?_eq_some_iff.1 hv).1
 cases hr:C.rd with
 |false=>
  obtain⟨s,C1,Rc,rfl,hn,rfl⟩:=w5 hst hr hl;rw[hv] at Rc;cases Rc;have hrd:=hn.facts.1;rw[hr] at hrd;obtain⟨B,p,rd,bad,arg,Bd⟩:=C1;simp only[] at hrd hl⊢;subst hrd;rw[Eb] at hl;refine ce func314 λg R=>?_;repeat' first|refine rn ?_|refine al λ_=>?_|refine WX.load rfl hv rfl ?_
  rename_i nb;refine ck (Xm (c:=c) (b:=nb) (T:=3) hn hok (by simp only[];omega)) ?_;rintro _ _ ⟨v1,h1,rfl,Qi,Mp⟩;simp only[can];refine WX.flat (H':=[dr c v1 p false bad arg Bd,_,h1,_,_]) rfl ?_;have hw1:ia 5 B v1 h1:=Qi.w rfl;have ID:decide ((most:Int)<(s0.size:Int))=decide (most<s0.size):=by simp
  generalize vv:(Bd||decide (most<s0.size))=lg
  cases Bd with
  |true=>
   have:lg=true:=vv.symm;subst this;try refine run ?_
   refine iX (ml [8,1]) [dr c v1 p false bad arg true,[(b,.cells vs'.toArray T (0,0))]] ?_;repeat' first|refine run ?_|refine WX.load rfl hv rfl ?_
   refine WX.MY rfl rfl hw1 rfl (by decide) (by omega) rfl (λv2 h2 Sa=>?_);obtain⟨p2,n2,c2,rfl⟩:=Sa.sh;try refine run ?_
   exact D.ri _ _ rfl ⟨.slice p2 n2 c2,h2,rfl,⟨λe=>(by cases e),λ_=>Sa,by rw[Eb];exact hl⟩,λe=>(by rw[hr] at e;cases e)⟩
  |false=>
   have:decide (most<s0.size)=lg:=vv;try refine run ?_
   rw[ID,this];refine iX (ml [8,1]) [dr c v1 p false bad arg lg,[(b,.cells vs'.toArray T (0,0))]] ?_;repeat' first|refine run ?_|refine WX.load rfl hv rfl ?_
   refine WX.MY rfl rfl hw1 rfl (by decide) (by omega) rfl (λv2 h2 Sa=>?_);obtain⟨p2,n2,c2,rfl⟩:=Sa.sh;try refine run ?_
   exact D.ri _ _ rfl ⟨.slice p2 n2 c2,h2,rfl,⟨λe=>(by cases e),λ_=>Sa,by rw[Eb];exact hl⟩,λe=>(by rw[hr] at e;cases e)⟩
 |true=>
  obtain⟨s,C1,rest,rfl,hn,hd,YH,hps,rfl⟩:=x5 hst hr hok.l hv;have hrd:=hn.facts.1;rw[hr] at hrd;obtain⟨B,p,rd,bad,arg,Bd⟩:=C1;simp only[] at hrd hl hd YH hps⊢;subst hrd;refine ce func314 λg R=>?_;repeat' first|refine rn ?_|refine al λ_=>?_|refine WX.load rfl hv rfl ?_
  rename_i nb;refine ck (Xm (c:=c) (b:=nb) (T:=3) hn hok hl) ?_;rintro _ _ ⟨v1,h1,rfl,Qi,Mp⟩;simp only[can];refine WX.flat (H':=[dr c v1 p true bad arg Bd,_,h1,_,_]) rfl ?_;have Qp:Rs B v1 h1:=Qi.r rfl;obtain⟨p1,l1,c1,rfl⟩:∃p l c,v1= .slice p l c:=by obtain⟨p,c,e⟩:=Qp.len;exact⟨_,_,_,e⟩
  have hle:=congrArg List.length hd;have e1:s.data.toList.length=s.size:=rfl;rw[length_drop,Eb,e1] at hle;have hcap:B.length<=c1:=by obtain⟨a,cc,e,le,_⟩:=id Qp;cases e;exact le
  have hrc:Rs s.data.toList (Ui (.slice p1 l1 c1) 1 p (p+s.size) c1) h1:=by
   have:=Qp.cut (m:=1) (lo:=p) (hi:=p+s.size) (mx:=c1) rfl (by omega) (by omega) (by omega);rw[hd,show p+s.size - p=s.data.toList.length from by rw[e1];omega,take_left] at this;exact this
  try refine run ?_
  refine wr ?_;refine iX (ml [17]) [dr c (.slice p1 l1 c1) p true bad arg Bd,[(nb,.cells (List.toArray [.int .i64 (s.size:Int)]) 3 (0,0))],h1] ?_;try refine run ?_
  refine WX.as 70 (.int .i64 ((p+s.size:Nat):Int)) rfl rfl ?_;refine WX.EJ (lo:=p) (hi:=p+s.size) rfl rfl rfl (by omega) (by omega) rfl ?_;repeat' first|refine run ?_|refine WX.store rfl rfl rfl hlt ?_
  rw[qA];refine iX (ml [6]) [dr c (.slice p1 l1 c1) p true bad arg Bd,[(nb,.cells (List.toArray [.int .i64 (s.size:Int)]) 3 (0,0))]] ?_;try refine run ?_
  rw[show((p:Int)+(s.size:Int))=((p+s.size:Nat):Int) from rfl];exact D.fc _ _ rfl ⟨.slice p1 l1 c1,h1,rfl,⟨λ_=>Qp,λe=>(by cases e),hl⟩,Mp⟩
variable{h:Hp}
def qG{o:Nat}(hrun:qj C vs [.num o,.num (o+1)] C' vs'){v:Value}(hok:Tp C v h)(hl:C'.b.length<=1099511627776){c b T:Nat}:
  Ct prog 317 [c,.pointer (some ⟨b,o,none⟩)] [Pr c C v,[(b,.cells vs.toArray T (0,0))],h] (Fx c b T C C' v h vs' []):=by
 refine ce func317 λg R=>?_;simp only[can];refine W.mix (List.replicate 7 true++[false,false]) ([]:HH) Tryz.mix (by kernel_rfl) ?_;try refine run ?_
 refine Up [(⟨b,o⟩:Pv),⟨b,o+1⟩] (λv1 h1 hs1=>?_);try refine run ?_
 refine ck (Zo (c:=c) (b:=b) (T:=T) (os:=[o,o+1]) hrun hok hl hs1.rs (by simp)) ?_;rintro _ _ ⟨v2,h2,rfl,Io,Nj⟩;refine rn ?_;exact D.fc _ _ rfl ⟨v2,h2,rfl,Io,Nj⟩
def Px(o:Nat):List It:=(List.range 9).map λi=> .num (o+i)
def nQ{o k r:Nat}(hk:k<3)(hr:r<3):(Px o).drop (k*3+r)= .num (o+k*3+r)::(Px o).drop (k*3+(r+1)):=by
 have:k*3+r<(Px o).length:=by simp[Px];omega
 rw[drop_eq_getElem_cons this];simp[Px,Nat.add_assoc]
def oQ{o:Nat}(hrun:qj C vs (Px o) C' vs'){v:Value}(hok:Tp C v h)(hl:C'.b.length<=1099511627776){c b T:Nat}:
  Ct prog 316 [c,.pointer (some ⟨b,o,none⟩)] [Pr c C v,[(b,.cells vs.toArray T (0,0))],h] (Fx c b T C C' v h vs' []):=by
 refine Tk func316 λg R=>?_
 refine W.lo (α:=Nat×Cd×List Value×Value×Hp) (λx=>x.1<=3/\qj x.2.1 x.2.2.1 ((Px o).drop (x.1*3+0)) C' vs'/\Tp x.2.1 x.2.2.2.1 x.2.2.2.2/\x.2.1.rd=C.rd/\(C.rd=true->x.2.2.2.1=v/\x.2.2.2.2=h))
  (λx=>[(0,c),(1,.pointer (some ⟨b,o,none⟩)),(6,.int .i64 (x.1:Int))])
  (λx=>[Pr c x.2.1 x.2.2.2.1,[(b,.cells x.2.2.1.toArray T (0,0))],x.2.2.2.2,R]) (λx=>3 - x.1) (0,C,vs,v,h) ⟨di _,hrun,hok,rfl,λ_=>⟨rfl,rfl⟩⟩ ?_
 rintro⟨k,Dk,ws,y,hy⟩ ⟨hk,hr,ok,hrd,hkeep⟩;simp only[] at hk hr ok hrd hkeep⊢;by_cases hlt:k<3
 .try refine run ?_
  refine W.lo (α:=Nat×Cd×List Value×Value×Hp) (λx=>x.1<=3/\qj x.2.1 x.2.2.1 ((Px o).drop (k*3+x.1)) C' vs'/\Tp x.2.1 x.2.2.2.1 x.2.2.2.2/\x.2.1.rd=C.rd/\(C.rd=true->x.2.2.2.1=v/\x.2.2.2.2=h))
   (λx=>[(0,c),(1,.pointer (some ⟨b,o,none⟩)),(4,.int .i64 (k:Int)),(6,.int .i64 (k:Int)),(9,.int .i64 (x.1:Int))])
   (λx=>[Pr c x.2.1 x.2.2.2.1,[(b,.cells x.2.2.1.toArray T (0,0))],x.2.2.2.2,R]) (λx=>3 - x.1) (0,Dk,ws,y,hy) ⟨di _,hr,ok,hrd,hkeep⟩ ?_
  rintro⟨r,Dr,wr,yr,hyr⟩ ⟨mX,PG,okr,XW,CM⟩;simp only[] at mX PG okr XW CM⊢;by_cases hrl:r<3
  .rw[nQ hlt hrl] at PG
   cases PG with
   | @cons _ D1 _ _ m5 _ _ _ hst ht=>
    try refine run ?_
    refine WX.as 18 (.pointer (some ⟨b,o+k*3+r,none⟩)) rfl (by rw[Int.toNat_natCast,Int.toNat_natCast,Nat.mul_one]) ?_;refine ck (Xm (c:=c) (b:=b) (T:=T) hst okr (Nat.le_trans ht.facts.2.1 hl)) ?_;rintro _ _ ⟨y',hy',rfl,Vu,hk'⟩;refine rn ?_
    exact D.round (r+1,D1,m5,y',hy') ⟨by omega,ht,Vu,hst.facts.1.trans XW,λe=>by
     obtain⟨e1,e2⟩:=hk' (XW.trans e);obtain⟨e3,e4⟩:=CM e;exact⟨e1.trans e3,e2.trans e4⟩⟩ (by simp only[];omega) (by repeat(first|exact Aa.nil|refine Aa.cons rfl ?_)) (Ia.qa inferInstance)
  .obtain rfl:r=3:=by omega
   try refine run ?_
   exact D.rd (k+1,Dr,wr,yr,hyr) ⟨by omega,by rw[show(k+1)*3+0=k*3+3 from by omega];exact PG,okr,XW,CM⟩ (by simp only[];omega)
 .obtain rfl:k=3:=by omega
  have hz:(Px o).drop (3*3+0)=[]:=rfl;rw[hz] at hr;cases hr;try refine run ?_
  exact D.fc _ _ rfl ⟨y,hy,rfl,ok,hkeep⟩
def Xd{C1:Cd}{v v1 v2:Value}{h1 h2:Hp}(e:C1.rd=C.rd)(k1:C.rd=true->v1=v/\h1=h)(k2:C1.rd=true->v2=v1/\h2=h1):C.rd=true->v2=v/\h2=h:=λhr=>by
 obtain⟨a1,a2⟩:=k1 hr;obtain⟨b1,b2⟩:=k2 (e.trans hr);exact⟨b1.trans a1,b2.trans a2⟩
def eF(o:Nat):List It:=(List.range 8).map λi=> .num (o+i)
def pQ{o k:Nat}(hk:k<4):(eF o).drop (k*2)=[.num (o+k*2),.num (o+k*2+1)]++(eF o).drop ((k+1)*2):=by
 have h1:k*2<(eF o).length:=by simp[eF];omega
 have h2:k*2+1<(eF o).length:=by simp[eF];omega
 rw[drop_eq_getElem_cons h1,drop_eq_getElem_cons h2,show(k+1)*2=k*2+1+1 from by omega];simp[eF,Nat.add_assoc]
def BH(o:Nat):List It:=[.num o,.num (o+1)]++(eF (o+2)++([.Xn (o+10)]++[.num (o+11),.num (o+12)]))
def qj.one{it:It}(h:qj C vs [it] C' vs'):Ux C vs it C' vs':=by
 cases h with
 |cons h t=>cases t;exact h
def uU{o:Nat}(hrun:qj C vs (BH o) C' vs'){v:Value}(hok:Tp C v h)(hl:C'.b.length<=1099511627776){c b T:Nat}:
  Ct prog 279 [c,.pointer (some ⟨b,o,none⟩)] [Pr c C v,[(b,.cells vs.toArray T (0,0))],h] (Fx c b T C C' v h vs' []):=by
 obtain⟨C1,tM,r1,hrun⟩:=hrun.split;obtain⟨C2,SU,r2,hrun⟩:=hrun.split;obtain⟨C3,vs3,r3,r4⟩:=hrun.split;have l1:=r4.facts.2.1;have l2:=Nat.le_trans r3.facts.2.1 l1;have l3:=Nat.le_trans r2.facts.2.1 l2;refine Tk func279 λg R=>?_;refine W.mix (List.replicate 7 true++[false,false]) ([]:HH) Tryz.mix (by kernel_rfl) ?_;try refine run ?_
 refine Up [(⟨b,o⟩:Pv),⟨b,o+1⟩] (λv1 h1 hs1=>?_);try refine run ?_
 refine ck (Zo (c:=c) (b:=b) (T:=T) (os:=[o,o+1]) r1 hok (Nat.le_trans l3 hl) hs1.rs (by simp)) ?_;rintro _ _ ⟨v2,h2,rfl,Io,Nj⟩;refine rn ?_
 refine W.lo (α:=Nat×Cd×List Value×Value×Hp) (λx=>x.1<=4/\qj x.2.1 x.2.2.1 ((eF (o+2)).drop (x.1*2)) C2 SU/\Tp x.2.1 x.2.2.2.1 x.2.2.2.2/\x.2.1.rd=C.rd/\(C.rd=true->x.2.2.2.1=v/\x.2.2.2.2=h))
  (λx=>[(0,c),(1,.pointer (some ⟨b,o,none⟩)),(14,.int .i64 (x.1:Int))])
  (λx=>[Pr c x.2.1 x.2.2.2.1,[(b,.cells x.2.2.1.toArray T (0,0))],x.2.2.2.2,R]) (λx=>4 - x.1) (0,C1,tM,v2,h2) ⟨di _,r2,Io,r1.facts.1,Nj⟩ ?_
 rintro⟨k,Dk,ws,y,hy⟩ ⟨hk,hr,ok,hrd,hkeep⟩;simp only[] at hk hr ok hrd hkeep⊢;by_cases hlt:k<4
 .rw[pQ hlt] at hr;obtain⟨D1,m5,q1,q2⟩:=hr.split;try refine run ?_
  refine WX.as 22 (.pointer (some ⟨b,o+2+k*2,none⟩)) rfl (by rw[Int.toNat_natCast]) ?_;refine ck (qG (c:=c) (b:=b) (T:=T) q1 ok (Nat.le_trans q2.facts.2.1 (Nat.le_trans l2 hl))) ?_;rintro _ _ ⟨y',hy',rfl,Vu,hk'⟩;refine rn ?_;exact D.rd (k+1,D1,m5,y',hy') ⟨by omega,q2,Vu,q1.facts.1.trans hrd,Xd hrd hkeep hk'⟩ (by simp only[];omega)
 .obtain rfl:k=4:=by omega
  have hz:(eF (o+2)).drop (4*2)=[]:=rfl;rw[hz] at hr;cases hr;try refine run ?_
  refine ck (GK (c:=c) (b:=b) (T:=T) r3.one ok (Nat.le_trans l1 hl)) ?_;rintro _ _ ⟨v3,h3,rfl,y5,rG⟩;refine rn ?_;refine ck (qG (c:=c) (b:=b) (T:=T) (o:=o+11) r4 y5 hl) ?_;rintro _ _ ⟨v4,h4,rfl,ok4,vU⟩;refine rn ?_;exact D.fc _ _ rfl ⟨v4,h4,rfl,ok4,Xd (r3.facts.1.trans hrd) (Xd hrd hkeep rG) vU⟩
def Ox(o:Nat):List It:=[.num o,.num (o+1),.num (o+2),.num (o+3),.num (o+4),.num (o+5)]++([.Bj (o+6) 16]++([.Bj (o+7) 32]++([.Xn (o+8)]++(Px (o+9)++[.num (o+18),.num (o+19)]))))
def wU{C C':Cd}{vs vs':List Value}{o:Nat}(hrun:qj C vs (Ox o) C' vs'){v:Value}{h:Hp}(hok:Tp C v h)(hl:C'.b.length<=1099511627776){c b T:Nat}:
  Ct prog 278 [c,.pointer (some ⟨b,o,none⟩)] [Pr c C v,[(b,.cells vs.toArray T (0,0))],h] (Fx c b T C C' v h vs' []):=by
 obtain⟨C1,tM,r1,hrun⟩:=hrun.split;obtain⟨C2,SU,r2,hrun⟩:=hrun.split;obtain⟨C3,vs3,r3,hrun⟩:=hrun.split;obtain⟨C4,vs4,r4,hrun⟩:=hrun.split;obtain⟨C5,vs5,r5,r6⟩:=hrun.split;have l5:=Nat.le_trans r6.facts.2.1 hl;have l4:=Nat.le_trans r5.facts.2.1 l5;have l3:=Nat.le_trans r4.facts.2.1 l4;have l2:=Nat.le_trans r3.facts.2.1 l3;have l1:=Nat.le_trans r2.facts.2.1 l2;refine Tk func278 λg R=>?_;refine W.mix (List.replicate 25 true++[false,false]) ([]:HH) Tryz.mix (by kernel_rfl) ?_;try refine run ?_
 refine Up [(⟨b,o⟩:Pv),⟨b,o+1⟩,⟨b,o+2⟩,⟨b,o+3⟩,⟨b,o+4⟩,⟨b,o+5⟩] (λv1 h1 hs1=>?_);try refine run ?_
 refine ck (Zo (c:=c) (b:=b) (T:=T) (os:=[o,o+1,o+2,o+3,o+4,o+5]) r1 hok l1 hs1.rs (by simp)) ?_;rintro _ _ ⟨v2,h2,rfl,Io,Nj⟩;refine rn ?_;refine ck (gO (c:=c) (b:=b) (T:=T) (o:=o+6) (most:=16) r2.one Io l2) ?_;rintro _ _ ⟨v3,h3,rfl,y5,rG⟩;refine rn ?_;refine ck (gO (c:=c) (b:=b) (T:=T) (o:=o+7) (most:=32) r3.one y5 l3) ?_;rintro _ _ ⟨v4,h4,rfl,ok4,vU⟩;refine rn ?_;refine ck (GK (c:=c) (b:=b) (T:=T) (o:=o+8) r4.one ok4 l4) ?_;rintro _ _ ⟨v5,h5,rfl,ok5,A5⟩;refine rn ?_;refine ck (oQ (c:=c) (b:=b) (T:=T) (o:=o+9) r5 ok5 l5) ?_;rintro _ _ ⟨v6,h6,rfl,ok6,B5⟩;refine rn ?_;refine W.mix (List.replicate 7 true++[false,false]) ([]:HH) Tryz.mix (by kernel_rfl) ?_;try refine run ?_
 refine Up [(⟨b,o+18⟩:Pv),⟨b,o+19⟩] (λv7 h7 Gn=>?_);try refine run ?_
 refine ck (Zo (c:=c) (b:=b) (T:=T) (os:=[o+18,o+19]) r6 ok6 hl Gn.rs (by simp)) ?_;rintro _ _ ⟨v8,h8,rfl,ok8,D5⟩;refine rn ?_;have e2:=r1.facts.1;have e3:=r2.facts.1.trans e2;have e4:=r3.facts.1.trans e3;have e5:=r4.facts.1.trans e4;have e6:=r5.facts.1.trans e5;exact D.fc _ _ rfl ⟨v8,h8,rfl,ok8,Xd e6 (Xd e5 (Xd e4 (Xd e3 (Xd e2 Nj rG) vU) A5) B5) D5⟩
def Nn(s:Nat):List UInt8:=[UInt8.ofNat (s/2^24),UInt8.ofNat (s/2^16),UInt8.ofNat (s/2^8),UInt8.ofNat s]
def frame(B:List UInt8):List UInt8:=[UInt8.ofNat (B.length/2^8),UInt8.ofNat B.length]++B++Nn (wg B)
def ni(C:Cd):List UInt8×Int:=if C.arg=true then([],1) else if C.Bd=true then([],42) else(frame C.b,0)
def Ef(n:Nat):IntKind.u8.wrap (n:Int)=((UInt8.ofNat n).toNat:Int):=by
 rw[IntKind.wrap_u8',UInt8.toNat_ofNat'];omega
def qQ{C:Cd}{v:Value}{h:Hp}(hs:ia 5 C.b v h)(hl:C.b.length<=1099511627776){c:Nat}:
  Ct prog 256 [c] [Pr c C v,h] (λr H'=>∃u hb,r= .tuple #[u,.int .i64 (ni C).2]/\H'=[Pr c C v,h,hb]/\ia 5 (ni C).1 u hb):=by
 obtain⟨B,p,rd,bad,arg,Bd⟩:=C;simp only[] at hs hl;have hr:=hs.rs;refine Ct.pack (pre:=[dr c v p rd bad arg Bd,h]) (post:=λr H'=>∃u hb,r= .tuple #[u,.int .i64 (ni ⟨B,p,rd,bad,arg,Bd⟩).2]/\H'=[dr c v p rd bad arg Bd,h,hb]/\ia 5 (ni ⟨B,p,rd,bad,arg,Bd⟩).1 u hb) ?_ rfl (λr H' e=>⟨_,rfl,e⟩);refine ce func256 λg R=>?_;simp only[can]
 cases arg with
 |true=>
  try refine run ?_
  exact D.Vb [dr c v p rd bad true Bd,h,[]] _ rfl rfl rfl ⟨_,_,rfl,rfl,ia.nil _⟩
 |false=>
 cases Bd with
 |true=>
  try refine run ?_
  exact D.Vb [dr c v p rd bad false true,h,[]] _ rfl rfl rfl ⟨_,_,rfl,rfl,ia.nil _⟩
 |false=>
  obtain⟨p1,l1,c1,rfl⟩:=hs.sh;try refine run ?_
  refine iX (ml [9,2,1]) [dr c (.slice p1 l1 c1) p rd bad false false,h] ?_;try refine run ?_
  refine Up [(⟨p1,l1,c1⟩:Sv)] (λv1 h1 hs1=>?_);try refine run ?_
  refine cq (rU hs1.rs hr hl) ?_;repeat' first|refine run ?_|refine WX.Po (m:=8) rfl rfl (by decide) rfl ?_|refine WX.eG rfl rfl ?_
  refine WX.as 30 (.int .u8 ((UInt8.ofNat (B.length/2^8)).toNat:Int)) rfl (by rw[Ef]) ?_;refine WX.as 32 (.int .u8 ((UInt8.ofNat B.length).toNat:Int)) rfl (by rw[Ef]) ?_;refine Up [UInt8.ofNat (B.length/2^8),UInt8.ofNat B.length] (λv2 h2 Sa=>?_);try refine run ?_
  refine Jt (zb:=by simp only[Ib,td];omega) Sa hr (λv3 h3 Cc=>?_);repeat' first|refine run ?_|refine WX.Po (m:=24) rfl rfl (by decide) rfl ?_|refine WX.Po (m:=16) rfl rfl (by decide) rfl ?_|refine WX.Po (m:=8) rfl rfl (by decide) rfl ?_|refine WX.eG rfl rfl ?_
  refine WX.as 42 (.int .u8 ((UInt8.ofNat (wg B/2^24)).toNat:Int)) rfl (by rw[Ef]) ?_;refine WX.as 45 (.int .u8 ((UInt8.ofNat (wg B/2^16)).toNat:Int)) rfl (by rw[Ef]) ?_;refine WX.as 48 (.int .u8 ((UInt8.ofNat (wg B/2^8)).toNat:Int)) rfl (by rw[Ef]) ?_;refine WX.as 50 (.int .u8 ((UInt8.ofNat (wg B)).toNat:Int)) rfl (by rw[Ef]) ?_;refine Up (Nn (wg B)) (λv4 h4 hs4=>?_);refine Jt (zb:=by simp only[Ib,td,Eb,Nn];omega) Cc hs4.rs (λv5 h5 hs5=>?_);try refine run ?_
  exact D.Vb [dr c (.slice p1 l1 c1) p rd bad false false,h,h5] _ rfl rfl rfl ⟨_,_,rfl,rfl,hs5⟩
end Go.Proofs.YthebagfahkebiaaGreat
namespace Go.Sl
open Go List
section
variable{g:World}{P:Program}{ops:Array Oper}{Q:Exit->Act->World->Prop}{n:Nat}{rest:List Oper}{L:Fm}{H:HH}{q:Bool}
variable{d:Nat}{ty:TypeId}{pos:String}{af:Array Edge}{x y:Operand}{t t' a b:Nat}
def DM(a b:Nat)(ha:a<4294967296)(hb:b<4294967296):bits .or .i64 (a:Int) (b:Int)=((a|||b:Nat):Int):=by
 have hx:a|||b<2^32:=Nat.or_lt_two_pow (by omega) (by omega)
 have h1:∀c:Nat,c<4294967296->(BitVec.ofInt 64 (c:Int)).toNat=c:=λc hc=>by
  rw[BitVec.ofInt_natCast,BitVec.toNat_ofNat];exact Nat.mod_eq_of_lt (by omega)
 show IntKind.i64.wrap ((BitVec.ofInt 64 (a:Int)|||BitVec.ofInt 64 (b:Int)).toNat:Int)=_;rw[BitVec.toNat_or,h1 a ha,h1 b hb];exact IntWalk.i64_in _ (by omega)
def WX.E5(hx:ev L x=some (.int .i64 (a:Int)))(hy:ev L y=some (.int .i64 (b:Int)))(ha:a<4294967296)(hb:b<4294967296)(hd:Nat.blt d n=true)
  (k:WX q g P ops Q n rest ((d,.int .i64 ((a|||b:Nat):Int))::L) H):WX q g P ops Q n (⟨some d,.binOp .or t x y t',ty,pos,af,none⟩::rest) L H:=
 WX.val (λac hac w _=>Wc (hac.ev hx) (hac.ev hy) qb (by
  have:=DM a b ha hb;simp only[binOp,ne_eq,not_true_eq_false,if_false,intBits_or,this,Sem.run_pure])) hd k
end
end Go.Sl
namespace Go.Proofs.YthebagfahkebiaaGreat
open Go Go.Sl Go.Proofs.Tryz List
def HK{xs ys:List UInt8}{u v:Value}{hu hv:Hp}(h1:Rs xs u hu)(h2:Rs ys v hv):
  Ct prog 234 [u,v] [hu,hv] (λr H'=>r= .bool (decide (xs=ys))/\H'=[hu,hv]):=by
 refine Tk func234 λg R=>?_;exact Xa [hu,hv] rfl rfl ⟨by simp only[cQ],rfl⟩
def On(B:List UInt8):(frame B).length=B.length+6:=by
 unfold frame Nn;simp only[Eb,Ib,td];omega
theorem RN(B:List UInt8):(frame B)[0]? =some (UInt8.ofNat (B.length/2^8)):=rfl
theorem SN(B:List UInt8):(frame B)[1]? =some (UInt8.ofNat B.length):=rfl
def iO{B:List UInt8}(h:B.length<65536):(UInt8.ofNat (B.length/2^8)).toNat*2^8|||(UInt8.ofNat B.length).toNat=B.length:=by
 rw[Of (by omega),UInt8.toNat_ofNat',Nat.mul_comm,<-Nat.two_pow_add_eq_or_of_lt (i:=8) (by omega)];omega
def EM{B xs:List UInt8}(hB:B.length<65536){k:Nat}(hk:k<(frame B).length)(hx:xs=(frame B).take k){v:Value}{h:Hp}(hr:Rs xs v h):
  Ct prog 232 [v] [h] (λr H'=>r= .tuple #[.slice none 0 0,.int .i64 40]/\H'=[h]):=by
 have zy:xs.length=k:=by rw[hx,Oe];omega
 rw[On] at hk;refine ce func232 λg R=>?_;simp only[can];by_cases h2:xs.length<2
 .repeat' first|refine run ?_|refine W.lq 0 rfl ?_
  exact D.Vb [h] _ rfl rfl rfl ⟨rfl,rfl⟩
 .obtain⟨x0,hx0⟩:∃x,xs[0]? =some x:=⟨_,Wg (by omega)⟩;obtain⟨x1,hx1⟩:∃x,xs[1]? =some x:=⟨_,Wg (by omega)⟩
  have e0:x0=UInt8.ofNat (B.length/2^8):=by
   rw[hx,List.getElem?_take_of_lt (by omega),RN] at hx0;exact(Option.some.inj hx0).symm
  have e1:x1=UInt8.ofNat B.length:=by
   rw[hx,List.getElem?_take_of_lt (by omega),SN] at hx1;exact(Option.some.inj hx1).symm
  have hn:=iO hB;rw[<-e0,<-e1] at hn;have hb0:=Mh x0;have YH:=Mh x1;repeat' first|refine run ?_|refine W.lq 0 rfl ?_
  refine wq ?_;repeat' first|refine run ?_|refine WX.conv rfl rfl (IntWalk.i64_in _ (by omega)) ?_|refine WX.MP (m:=8) rfl rfl (by decide) (IntWalk.i64_in _ (by omega)) rfl ?_|refine WX.E5 rfl rfl (by omega) (by omega) rfl ?_
  exact D.Vb [h] _ rfl rfl rfl ⟨rfl,rfl⟩
def TN(B rest:List UInt8):((frame B++rest).drop 2).take (B.length+2 - 2)=B:=by
 show((B++Nn (wg B))++rest).take (B.length+2 - 2)=B;rw[Sc,show B.length+2 - 2=B.length from by omega,take_left]
def UN(B rest:List UInt8):((frame B++rest).drop (B.length+2)).take (B.length+6 - (B.length+2))=Nn (wg B):=by
 have:frame B++rest=([UInt8.ofNat (B.length/2^8),UInt8.ofNat B.length]++B)++(Nn (wg B)++rest):=by unfold frame;simp
 rw[this,show B.length+2=([UInt8.ofNat (B.length/2^8),UInt8.ofNat B.length]++B).length from by simp,drop_left];have h4:([UInt8.ofNat (B.length/2^8),UInt8.ofNat B.length]++B).length=B.length+2:=by simp
 rw[h4,show B.length+6 - (B.length+2)=(Nn (wg B)).length from by simp[Nn],take_left]
def YW{B rest xs:List UInt8}(hB:B.length<65536)(hx:xs=frame B++rest){v:Value}{h:Hp}(hr:Rs xs v h)(hl:xs.length<=1099511627776):
  Ct prog 232 [v] [h] (λr H'=>∃u,r= .tuple #[u,.int .i64 0]/\H'=[h]/\Rs B u h):=by
 have zy:xs.length=B.length+6+rest.length:=by rw[hx,Eb,On]
 obtain⟨p,c,rfl⟩:=hr.len;have hcap:xs.length<=c:=by obtain⟨a,cc,e,le,_⟩:=id hr;cases e;exact le
 have x0h:xs[0]? =some (UInt8.ofNat (B.length/2^8)):=by rw[hx];rfl
 have x1h:xs[1]? =some (UInt8.ofNat B.length):=by rw[hx];rfl
 have hn:=iO hB;have hb0:=Mh (UInt8.ofNat (B.length/2^8));have YH:=Mh (UInt8.ofNat B.length)
 have bZ:Rs B (Ui (.slice p xs.length c) 1 2 (B.length+2) c) h:=by
  have:=hr.cut (m:=1) (lo:=2) (hi:=B.length+2) (mx:=c) rfl (by omega) (by omega) (by omega);rw[hx] at this;rw[TN] at this;rw[<-hx] at this;exact this
 have hrS:Rs (Nn (wg B)) (Ui (.slice p xs.length c) 1 (B.length+2) (B.length+6) c) h:=by
  have:=hr.cut (m:=1) (lo:=B.length+2) (hi:=B.length+6) (mx:=c) rfl (by omega) (by omega) (by omega);rw[hx] at this;rw[UN] at this;rw[<-hx] at this;exact this
 obtain⟨q1,q2,q3,hq⟩:∃q1 q2 q3,Ui (.slice p xs.length c) 1 2 (B.length+2) c= .slice q1 q2 q3:=⟨_,_,_,rfl⟩;rw[hq] at bZ;refine ce func232 λg R=>?_;repeat' first|refine rn ?_|refine W.lq 0 rfl ?_
 refine wq ?_;repeat' first|refine run ?_|refine WX.conv rfl rfl (IntWalk.i64_in _ (by omega)) ?_|refine WX.MP (m:=8) rfl rfl (by decide) (IntWalk.i64_in _ (by omega)) rfl ?_|(refine WX.E5 rfl rfl (by omega) (by omega) rfl ?_;rw[hn])
 refine WX.as 27 (.int .i64 ((B.length+2:Nat):Int)) rfl rfl ?_;refine WX.EJ (lo:=2) (hi:=B.length+2) rfl rfl rfl (by omega) (by omega) rfl ?_;rw[hq];try refine run ?_
 refine Up [(⟨q1,q2,q3⟩:Sv)] (λv1 h1 hs1=>?_);refine cq (rU hs1.rs bZ (by omega)) ?_;try refine run ?_
 refine WX.as 34 (.int .i64 ((B.length+2:Nat):Int)) rfl rfl ?_;refine WX.as 36 (.int .i64 ((B.length+6:Nat):Int)) rfl rfl ?_;refine WX.EJ (lo:=B.length+2) (hi:=B.length+6) rfl rfl rfl (by omega) (by omega) rfl ?_;repeat' first|refine run ?_|refine WX.Po (m:=24) rfl rfl (by decide) rfl ?_|refine WX.Po (m:=16) rfl rfl (by decide) rfl ?_|refine WX.Po (m:=8) rfl rfl (by decide) rfl ?_|refine WX.eG rfl rfl ?_
 refine WX.as 40 (.int .u8 ((UInt8.ofNat (wg B/2^24)).toNat:Int)) rfl (by rw[Ef]) ?_;refine WX.as 43 (.int .u8 ((UInt8.ofNat (wg B/2^16)).toNat:Int)) rfl (by rw[Ef]) ?_;refine WX.as 46 (.int .u8 ((UInt8.ofNat (wg B/2^8)).toNat:Int)) rfl (by rw[Ef]) ?_;refine WX.as 48 (.int .u8 ((UInt8.ofNat (wg B)).toNat:Int)) rfl (by rw[Ef]) ?_;refine Up (Nn (wg B)) (λv4 h4 hs4=>?_);refine cq (HK hrS hs4.rs) ?_;rw[Mi (rfl:Nn (wg B)=Nn (wg B))];try refine run ?_
 exact D.Vb [h] _ rfl rfl rfl ⟨_,rfl,rfl,bZ⟩
variable{vs:List Value}
def Ud(vs:List Value)(C:Cd)(it:It):Cd:=
 match vs[it.o]? with
 |some u=>{C with b:=C.b++(encI it u).getD [],arg:=C.arg||(encI it u).isNone,Bd:=C.Bd||Ij it u}
 |none=>C
def Vq(vs:List Value)(it:It):Prop:=∃u,vs[it.o]? =some u/\HX it u
def ZW:∀{Zc:List It} {C:Cd},C.rd=false->(∀it∈Zc,Vq vs it)->qj C vs Zc (Zc.foldl (Ud vs) C) vs:=by
 intro Zc
 induction Zc with
 |nil=>intro C _ _;exact .nil
 |cons it r ih=>
  intro C hr ht;obtain⟨u,hu,ok⟩:=ht it (qf ..);have hs:=Ux.w (C:=C) (it:=it) hr hu ok;have hw:Ud vs C it={C with b:=C.b++(encI it u).getD [],arg:=C.arg||(encI it u).isNone,Bd:=C.Bd||Ij it u}:=by unfold Ud;rw[hu]
  rw[<-hw] at hs;exact .cons hs (ih (hs.facts.1.trans hr) λx hx=>ht x (Vn _ hx))
def xj(vs:List Value)(Zc:List It):List UInt8:=(Zc.map λit=>((vs[it.o]?).bind (encI it)).getD []).flatten
def F5:∀{Zc:List It} {C:Cd},(∀it∈Zc,∃u e,vs[it.o]? =some u/\encI it u=some e/\Ij it u=false)->Zc.foldl (Ud vs) C={C with b:=C.b++xj vs Zc}:=by
 intro Zc
 induction Zc with
 |nil=>intro C _;simp[xj]
 |cons it r ih=>
  intro C h;obtain⟨u,e,h1,h2,h3⟩:=h it (qf ..);have hw:Ud vs C it={C with b:=C.b++e}:=by unfold Ud;rw[h1];simp[h2,h3]
  rw[foldl_cons,hw,ih λx hx=>h x (Vn _ hx)];simp[xj,h1,h2]
def TH(vs:List Value)(ws:List Value)(it:It):List Value:=ws.set it.o ((vs[it.o]?).getD undef)
def PZ:∀{Zc:List It} {C:Cd} {ws:List Value} {rest:List UInt8},C.rd=true->(∀it∈Zc,∃u e,vs[it.o]? =some u/\HX it u/\encI it u=some e)->(Zc.map It.o).Nodup->(∀it∈Zc,Vq ws it)->
  C.b.drop C.p=xj vs Zc++rest->qj C ws Zc {C with p:=C.p+(xj vs Zc).length} (Zc.foldl (TH vs) ws):=by
 intro Zc
 induction Zc with
 |nil=>intro C ws rest _ _ _ _ _;exact .nil
 |cons it r ih=>
  intro C ws rest hr h hn ht hd;obtain⟨u,e,h1,h2,h3⟩:=h it (qf ..);obtain⟨u0,t1,t2⟩:=ht it (qf ..);have he:xj vs (it::r)=e++xj vs r:=by simp[xj,h1,h3]
  rw[he,Sc] at hd;have hs:=Ux.r (C:=C) hr t1 t2 h2 h3 hd;rw[map_cons,nodup_cons] at hn;have Jd:C.b.drop (C.p+e.length)=xj vs r++rest:=by rw[<-drop_drop,hd,drop_left]
  have h5:=ih (C:={C with p:=C.p+e.length}) (ws:=ws.set it.o u) (rest:=rest) hr (λx hx=>h x (Vn _ hx)) hn.2 (λx hx=>by
   obtain⟨u1,s1,s2⟩:=ht x (Vn _ hx);refine⟨u1,?_,s2⟩;have hne:it.o≠x.o:=λe=>hn.1 (by rw[e];exact mem_map.2 ⟨x,hx,rfl⟩);rw[List.getElem?_set_ne hne];exact s1) Jd
  have HT:TH vs ws it=ws.set it.o u:=by unfold TH;rw[h1];rfl
  rw[he,Eb,foldl_cons,HT,<-Nat.add_assoc];exact .cons hs h5
structure V9 where
 (a b c d e f g h i:Int)
 deriving DecidableEq
structure ya where
 (dc rg sq ct sd sr:Int)
 (key val:ByteArray)
 dead:Bool
 dp:V9
 (cl op:Int)
 deriving DecidableEq
structure Mem where
 (nd sn:Int)
 deriving DecidableEq
structure Wa where
 (ep n:Int)
 (f0 f1 f2 f3:Mem)
 jo:Bool
 le:Mem
 deriving DecidableEq
structure Rec where
 k:Int
 e:ya
 c:Wa
 base:Int
 deriving DecidableEq
def V9.enc(v:V9):List Value:=[v.a,v.b,v.c,v.d,v.e,v.f,v.g,v.h,v.i]
def ya.enc(e:ya):List Value:=[e.dc,e.rg,e.sq,e.ct,e.sd,e.sr,.string e.key,.string e.val,.bool e.dead,
 e.dp.a,e.dp.b,e.dp.c,e.dp.d,e.dp.e,e.dp.f,e.dp.g,e.dp.h,e.dp.i,e.cl,e.op]
def Wa.enc(c:Wa):List Value:=[c.ep,c.n,c.f0.nd,c.f0.sn,c.f1.nd,c.f1.sn,c.f2.nd,c.f2.sn,c.f3.nd,c.f3.sn,.bool c.jo,c.le.nd,c.le.sn]
def Rec.enc(r:Rec):List Value:= .int .i64 r.k::(r.e.enc++(r.c.enc++[.int .i64 r.base]))
instance:Qb Rec:=⟨35,Rec.enc,λ_=>rfl,λ_=>rfl,by decide⟩
def V9.z:V9:=⟨0,0,0,0,0,0,0,0,0⟩
def Mem.z:Mem:=⟨0,0⟩
def ya.z:ya:=⟨0,0,0,0,0,0,ByteArray.empty,ByteArray.empty,false,V9.z,0,0⟩
def Wa.z:Wa:=⟨0,0,Mem.z,Mem.z,Mem.z,Mem.z,false,Mem.z⟩
def Rec.z:Rec:=⟨0,ya.z,Wa.z,0⟩
def Rec.bare(r:Rec):Rec:=if r.k=1 then⟨1,r.e,Wa.z,0⟩ else if r.k=2 then⟨2,ya.z,r.c,r.base⟩ else⟨r.k,ya.z,Wa.z,0⟩
def Rec.Zc(k:Int):List It:=if k=1 then[.num 0]++Ox 1 else if k=2 then[.num 0]++(BH 21++[.num 34]) else[.num 0]
def T6:It->Value->Bool
 | .num _,.int .i64 _=>true
 | .Bj _ _,.string _=>true
 | .Xn _,.bool _=>true
 |_,_=>false
def QZ{it:It}{u:Value}(h:T6 it u=true):HX it u:=by
 cases it<;>cases u<;>simp only[T6,Bool.false_eq_true] at h
 case num.int o kd n=>cases kd<;>simp only[T6,Bool.false_eq_true] at h;exact⟨n,rfl⟩
 case Bj.string=>exact⟨_,rfl⟩
 case Xn.bool=>exact⟨_,rfl⟩
def G5(vs:List Value)(Zc:List It):Bool:=Zc.all λit=>match vs[it.o]? with
 |some u=>T6 it u
 |none=>false
def xU{Zc:List It}(h:G5 vs Zc=true):∀it∈Zc,Vq vs it:=by
 intro it hit;have:=all_eq_true.1 h it hit
 cases hu:vs[it.o]? with
 |none=>simp[hu] at this
 |some u=>rw[hu] at this;exact⟨u,hu▸rfl,QZ this⟩
def Rec.typed(r:Rec)(k:Int):∀it∈Rec.Zc k,Vq r.enc it:=by
 apply xU;unfold Rec.Zc;split
 .rfl
 .split
  .rfl
  .rfl
def Rec.nodup(k:Int):((Rec.Zc k).map It.o).Nodup:=by
 unfold Rec.Zc;split
 .decide
 .split
  .decide
  .decide
def rQ{j:Nat}:∀{Zc:List It} {ws:List Value},(∀it∈Zc,it.o<ws.length/\it.o<vs.length)->(Zc.foldl (TH vs) ws)[j]? =if j∈Zc.map It.o then vs[j]? else ws[j]? :=by
 intro Zc
 induction Zc with
 |nil=>intro ws _;simp
 |cons it r ih=>
  intro ws h;have h0:=h it (qf ..)
  rw[foldl_cons,ih (ws:=TH vs ws it) (λx hx=>by
   have:=h x (Vn _ hx);unfold TH;rw[length_set];exact this)]
  by_cases hj:j∈r.map It.o
  .rw[if_pos hj,if_pos (by rw[map_cons];exact Vn _ hj)]
  .rw[if_neg hj];by_cases he:j=it.o
   .subst he;rw[if_pos (by simp)];unfold TH;rw[List.getElem?_set_self h0.1,Wg h0.2];rfl
   .rw[if_neg (by rw[map_cons];intro hc;exact(mem_cons.1 hc).elim he hj)];unfold TH;rw[List.getElem?_set_ne (λe=>he e.symm)]
def Rec.lt(k:Int):∀it∈Rec.Zc k,it.o<35:=by
 have h:(Rec.Zc k).all (λit=>decide (it.o<35))=true:=by
  unfold Rec.Zc;split
  .rfl
  .split
   .rfl
   .rfl
 intro it hit;exact of_decide_eq_true (all_eq_true.1 h it hit)
def Rec.reset(r:Rec):(Rec.Zc r.k).foldl (TH r.enc) Rec.z.enc=r.bare.enc:=by
 apply ext_getElem?;intro j;rw[rQ (vs:=r.enc) (ws:=Rec.z.enc) (Zc:=Rec.Zc r.k) (λit hit=>(⟨Rec.lt _ it hit,Rec.lt _ it hit⟩:it.o<35/\it.o<35))];by_cases hj:j<35
 .obtain⟨k,e,c,b⟩:=r;unfold Rec.Zc Rec.bare;by_cases h1:k=1
  .simp only[h1,if_true]
   iterate 35 (rcases j with _|j;· rfl)
   omega
  .by_cases h2:k=2
   .simp only[h2,if_true,show ¬((2:Int)=1) from by decide,if_false]
    iterate 35 (rcases j with _|j;· rfl)
    omega
   .simp only[h1,h2,if_false]
    iterate 35 (rcases j with _|j;· rfl)
    omega
 .have h1:r.enc.length=35:=rfl;have h2:r.bare.enc.length=35:=rfl;have h3:Rec.z.enc.length=35:=rfl;rw[List.getElem?_eq_none (by omega),List.getElem?_eq_none (by omega),List.getElem?_eq_none (by omega)];simp
def Rec.aX{r s:Rec}(h:r.enc=s.enc):r=s:=by
 obtain⟨k,⟨e1,e2,e3,e4,e5,e6,e7,e8,e9,⟨d1,d2,d3,d4,d5,d6,d7,d8,d9⟩,JQ,I0⟩,⟨c1,c2,⟨f1,f2⟩,⟨f3,f4⟩,⟨f5,f6⟩,⟨f7,f8⟩,c3,⟨f9,f10⟩⟩,b⟩:=r;obtain⟨k',⟨fG,e2',AT,e4',e5',e6',e7',e8',e9',⟨d1',d2',d3',d4',d5',d6',d7',d8',d9'⟩,Baa,Caa⟩,⟨A0,c2',⟨f1',f2'⟩,⟨f3',f4'⟩,⟨f5',f6'⟩,⟨f7',f8'⟩,aL,⟨f9',Daa⟩⟩,b'⟩:=s;simp only[Rec.enc,ya.enc,Wa.enc,cons_append,nil_append,List.cons.injEq,Value.int.injEq,Value.string.injEq,Value.bool.injEq,true_and,and_true] at h;obtain⟨rfl,rfl,rfl,rfl,rfl,rfl,rfl,rfl,rfl,rfl,rfl,rfl,rfl,rfl,rfl,rfl,rfl,rfl,rfl,rfl,rfl,rfl,rfl,rfl,rfl,rfl,rfl,rfl,rfl,rfl,rfl,rfl,rfl,rfl,rfl⟩:=h;rfl
def RZ:CK->Value->Bool
 | .i,.int .i64 _=>true
 | .s,.string _=>true
 | .b,.bool _=>true
 |_,_=>false
def RG:List CK->List Value->Bool
 |[],[]=>true
 |k::ks,x::xs=>RZ k x && RG ks xs
 |_,_=>false
def FM{k:CK}{x y:Value}(hx:RZ k x=true)(hy:RZ k y=true):∃b,Um k x y=some b/\(b=true↔x=y):=by
 cases k<;>cases x<;>simp only[RZ,Bool.false_eq_true] at hx<;>cases y<;>simp only[RZ,Bool.false_eq_true] at hy
 case i.int.int kd n aI n'=>
  cases kd<;>simp only[RZ,Bool.false_eq_true] at hx;cases aI<;>simp only[RZ,Bool.false_eq_true] at hy;exact⟨_,rfl,by simp⟩
 case s.string.string=>exact⟨_,rfl,by simp⟩
 case b.bool.bool=>exact⟨_,rfl,by simp⟩
def Zh:∀{ks:List CK} {xs ys:List Value},RG ks xs=true->RG ks ys=true->∃b,Ab ks xs ys=some b/\(b=true↔xs=ys):=by
 intro ks
 induction ks with
 |nil=>
  intro xs ys h1 h2;cases xs<;>simp[RG] at h1;cases ys<;>simp[RG] at h2
  exact⟨true,rfl,by simp⟩
 |cons k r ih=>
  intro xs ys h1 h2
  cases xs with
  |nil=>simp[RG] at h1
  |cons x xs=>
  cases ys with
  |nil=>simp[RG] at h2
  |cons y ys=>
  simp only[RG,Bool.and_eq_true] at h1 h2;obtain⟨b,e1,i1⟩:=FM h1.1 h2.1;obtain⟨c,e2,i2⟩:=ih h1.2 h2.2;exact⟨b && c,by simp[Ab,e1,e2],by rw[Bool.and_eq_true,i1,i2,List.cons.injEq]⟩
def rP:List CK:=[.i,.i,.i,.i,.i,.i,.s,.s,.b,.i,.i,.i,.i,.i,.i,.i,.i,.i,.i,.i]
def GV:List CK:=[.i,.i,.i,.i,.i,.i,.i,.i,.i,.i,.b,.i,.i]
def rec_eq(r s:Rec):Ab (.i::(rP++(GV++[.i]))) r.enc s.enc=some (decide (r=s)):=by
 obtain⟨b,e,i⟩:=Zh (ks:= .i::(rP++(GV++[.i]))) (xs:=r.enc) (ys:=s.enc) rfl rfl;rw[e];congr 1;by_cases h:r=s
 .rw[Mi h];exact i.2 (by rw[h])
 .rw[rj h]
  cases b with
  |false=>rfl
  |true=>exact absurd (Rec.aX (i.1 rfl)) h
end Go.Proofs.YthebagfahkebiaaGreat
