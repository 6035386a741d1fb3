/- Texts of one road. -/
import Derived.ProofKit
import Derived.SizedLaws
import Derived.ChangeCalls
import Derived.Deep.Slices
import Derived.Test.YthebagfahkebiaaGreatRAE
set_option linter.all false
set_option maxHeartbeats 8000000
set_option maxRecDepth 20000
namespace Go.Proofs.YthebagfahkebiaaGreat
open Go Go.Sl Go.Proofs.Tryz List
variable{S:Be}{x:yd}
def zI{k:Int}(h:S.find k=some x):x∈S.fs:=mem_of_find?_eq_some h
def bu(h:x∈S.fs):x.b.length<=S.used:=by
 unfold Be.used
 have:∀{l:List yd},x∈l->x.b.length<=(l.map (·.b.length)).sum:=by
  intro l hl
  induction l with
  |nil=>cases hl
  |cons y r ih=>
   simp only[map_cons,sum_cons];rcases mem_cons.1 hl with rfl|hl
   .omega
   .have:=ih hl;omega
 exact this h
def vF{d:Nat}{h hx:Hp}(hd:Od S d h)(k:Int){bs:List UInt8}{u:Value}(hb:Rs bs u hx)(hl:bs.length<=1099511627776)(hu:S.used<=1048576)(hf:S.fs.length<=64)(tg:S.loose.length<=1099511627776):
  Ct prog 205 [d,k,u] [h,hx] (λr H'=>∃h',r= .int .i64 (S.Tg k bs.length)/\H'=[h',hx]/\Od (S.app k bs) d h'):=by
 obtain⟨m,c,lv,fs,lh,hd,rfl⟩:=hd;have hfl:=hd.len;have hml:(fs.map Fl.me).length=fs.length:=bf _;have Sn:=(SM (d:=d) (h:=Le d m lv++(pe m fs c++(lh++Dd fs))) ⟨m,c,lv,fs,lh,hd,rfl⟩ (by omega)).pack (pre':=[Le d m lv,pe m fs c,lh,Dd fs]) (post':=λr H'=>r= .int .i64 (S.used:Int)/\H'=[Le d m lv,pe m fs c,lh,Dd fs]) (by simp) (λr H' p=>⟨[Le d m lv,pe m fs c,lh,Dd fs],by rw[p.2];simp,p.1,rfl⟩)
 have hsame:∀E,S.Tg k bs.length=E->E≠0->(Ct prog 205 [d,k,u] [Le d m lv,pe m fs c,lh,Dd fs,hx] (λr H'=>r= .int .i64 E/\H'=[Le d m lv,pe m fs c,lh,Dd fs,hx]))->
   Ct prog 205 [d,k,u] [Le d m lv++(pe m fs c++(lh++Dd fs)),hx] (λr H'=>∃h',r= .int .i64 (S.Tg k bs.length)/\H'=[h',hx]/\Od (S.app k bs) d h'):=by
  intro E hE hne hc;refine hc.pack (by simp) (λr H' p=>⟨[Le d m lv++(pe m fs c++(lh++Dd fs)),hx],by rw[p.2];simp,_,by rw[p.1,hE],rfl,?_⟩);rw[show S.app k bs=S from if_neg (by rw[hE];exact hne)];exact⟨m,c,lv,fs,lh,hd,rfl⟩
 by_cases YH:k<0
 .refine hsame 50 (by simp[Be.Tg,YH]) (by decide) ?_;refine Tk func205 λg R=>?_;refine WX.lookup rfl rfl rfl ?_;try refine run ?_
  exact Wi [Le d m lv,pe m fs c,lh,Dd fs,hx]
 by_cases dy:1099511627776<k
 .refine hsame 50 (by simp[Be.Tg,dy]) (by decide) ?_;refine Tk func205 λg R=>?_;refine WX.lookup rfl rfl rfl ?_;try refine run ?_
  exact Wi [Le d m lv,pe m fs c,lh,Dd fs,hx]
 have I1: ¬(k<0\/1099511627776<k):=by omega
 cases hk:S.find k with
 |none=>
  obtain⟨hmf,hv⟩:=hd.no hk;by_cases h64:64<=S.fs.length
  .refine hsame 51 (by simp[Be.Tg,I1,hk,h64]) (by decide) ?_;refine Tk func205 λg R=>?_;refine WX.lookup rfl rfl rfl ?_;rw[hv];repeat' first|refine run ?_|refine WX.kL rfl rfl ?_
   exact Wi [Le d m lv,pe m fs c,lh,Dd fs,hx]
  by_cases hfull:1048576<S.used+bs.length
  .refine hsame 51 (by simp[Be.Tg,I1,hfull]) (by decide) ?_;refine Tk func205 λg R=>?_;refine WX.lookup rfl rfl rfl ?_;rw[hv];repeat' first|refine run ?_|refine WX.kL rfl rfl ?_
   refine cq Sn ?_;try refine run ?_
   exact Wi [Le d m lv,pe m fs c,lh,Dd fs,hx]
  have hE:S.Tg k bs.length=0:=by simp only[Be.Tg,hk];rw[if_neg I1,if_neg (by simp;omega)]
  have hS:S.app k bs={fs:=S.fs++[{n:=k,b:=bs,s:=0}],loose:=S.loose++[⟨k,bs.length⟩]}:=by simp[Be.app,hE,hk]
  rw[hE,hS]
  refine Ct.pack (pre:=[Le d m lv,pe m fs c,lh,Dd fs,hx]) (post:=λr H'=>∃fb p' l' c' h' Ym Zm,r= .int .i64 0/\H'=[Le d m Ym,[(m,ez (fs.map Fl.me++[⟨k,.pointer (some ⟨fb,0,none⟩),c⟩]) (c+1))],Zm,Dd fs,Yq fb (.slice p' l' c') 0,h',hx]/\
    ia 5 bs (.slice p' l' c') h'/\ia 245 (S.loose++[⟨k,bs.length⟩]) Ym Zm) ?_ (by simp)
   (λr H' ⟨fb,p',l',c',h',Ym,Zm,e1,e2,e3,e4⟩=>⟨[Le d m Ym++(pe m (fs++[⟨k,bs,0,fb,p',l',c',h',c⟩]) (c+1)++(Zm++Dd (fs++[⟨k,bs,0,fb,p',l',c',h',c⟩]))),hx],by rw[e2];simp[Dd,Fl.hp,Fl.me],_,e1,rfl,m,c+1,Ym,_,Zm,
    ⟨by rw[He];exact hd.mp.put hmf _,λx hx=>?_,by rw[He,hd.fs];rfl,e4⟩,rfl⟩)
  .refine Tk func205 λg R=>?_;refine WX.lookup rfl rfl rfl ?_;rw[hv];repeat' first|refine run ?_|refine WX.kL rfl rfl ?_
   refine cq Sn ?_;repeat' first|refine run ?_|refine Uc λ_=>?_
   rename_i fb;refine WX.VX rfl rfl rfl hmf ?_;try refine run ?_
   refine WX.Pe ?_;refine WX.app (xs:=[]) rfl rfl (ia.nil _) hb rfl rfl (by decide) (by simp only[td];omega) rfl (λv1 h1 hs1=>?_);rw[nil_append] at hs1;obtain⟨p1,n1,c1,rfl⟩:=hs1.sh;try refine run ?_
   refine Up [(⟨k,bs.length⟩:Pc)] (λv2 h2 Sa=>?_);refine Jt (zb:=by simp only[Ib,td];omega) hd.sl Sa.rs (λv3 h3 Cc=>?_);obtain⟨p3,n3,c3,rfl⟩:=Cc.sh;try refine run ?_
   exact Xa [Le d m (.slice p3 n3 c3),[(m,ez (fs.map Fl.me++[⟨k,.pointer (some ⟨fb,0,none⟩),c⟩]) (c+1))],h3,Dd fs,Yq fb (.slice p1 n1 c1) 0,h1,hx] rfl rfl ⟨fb,p1,n1,c1,h1,_,h3,rfl,rfl,hs1,Cc⟩
  .rcases mem_append.1 hx with hx|hx
   .exact hd.ok x hx
   .rw[mem_singleton] at hx;subst hx;exact e3
 |some x=>
  obtain⟨f,pre,post,rfl,rfl,hn,hok,h1,h2,hv⟩:=hd.has hk;have hr:=ia.rs hok;have hsz:f.b.length<=S.used:=bu (zI hk);by_cases hfull:1048576<S.used+bs.length
  .refine hsame 51 (by simp[Be.Tg,I1,hfull]) (by decide) ?_;refine Tk func205 λg R=>?_;refine WX.lookup rfl rfl rfl ?_;rw[hv];try refine run ?_
   refine cq Sn ?_;try refine run ?_
   exact Wi [Le d m lv,pe m (pre++f::post) c,lh,Dd (pre++f::post),hx]
  have hE:S.Tg k bs.length=0:=by simp only[Be.Tg,hk];rw[if_neg I1,if_neg (by simp;omega)]
  have hS':S.app k bs={fs:=S.EO k λf=>{f with b:=f.b++bs},loose:=S.loose++[⟨k,bs.length⟩]}:=by simp[Be.app,hE,hk]
  rw[hE,hS']
  refine Ct.pack (pre:=[Le d m lv,pe m (pre++f::post) c,lh,Dd (pre++f::post),hx]) (post:=λr H'=>∃p' l' c' h' Ym Zm,r= .int .i64 0/\H'=[Le d m Ym,pe m (pre++f::post) c,Zm,Dd pre,Yq f.blk (.slice p' l' c') f.s,h',Dd post,hx]/\
    ia 5 (f.b++bs) (.slice p' l' c') h'/\ia 245 (S.loose++[⟨k,bs.length⟩]) Ym Zm) ?_ (by simp) ?_
  .refine Tk func205 λg R=>?_;refine WX.lookup rfl rfl rfl ?_;rw[hv];try refine run ?_
   refine cq Sn ?_;refine WX.flat (H':=[Le d m lv,pe m (pre++f::post) c,lh,Dd pre,Yq f.blk (.slice f.p f.l f.c) f.s,f.h,Dd post,hx,R]) (by simp[Qd]) ?_;try refine run ?_
   refine Jt hok hb (λv1 HU hs1=>?_);obtain⟨p1,n1,c1,rfl⟩:=hs1.sh;try refine run ?_
   refine Up [(⟨k,bs.length⟩:Pc)] (λv2 h2' Sa=>?_);refine Jt (zb:=by simp only[Ib,td];omega) hd.sl Sa.rs (λv3 h3 Cc=>?_);obtain⟨p3,n3,c3,rfl⟩:=Cc.sh;try refine run ?_
   exact Xa [Le d m (.slice p3 n3 c3),pe m (pre++f::post) c,h3,Dd pre,Yq f.blk (.slice p1 n1 c1) f.s,HU,Dd post,hx] rfl rfl ⟨p1,n1,c1,HU,_,h3,rfl,rfl,hs1,Cc⟩
  .rintro r _ ⟨p',l',c',h',Ym,Zm,e1,rfl,e3,e4⟩;obtain⟨f',hf'⟩:∃f':Fl,f'={f with b:=f.b++bs,p:=p',l:=l',c:=c',h:=h'}:=⟨_,rfl⟩;have hme:(pre++f'::post).map Fl.me=(pre++f::post).map Fl.me:=by rw[hf'];simp[Fl.me]
   have lV:pe m (pre++f'::post) c=pe m (pre++f::post) c:=by unfold pe;rw[hme]
   have hon:S.EO k (λf=>{f with b:=f.b++bs})=(pre++f'::post).map Fl.file:=by
    unfold Be.EO;rw[<-hd.fs];exact HG h1 h2 hn (by rw[hf'];rfl)
   refine⟨[Le d m Ym++(pe m (pre++f'::post) c++(Zm++Dd (pre++f'::post))),hx],by rw[Qd,lV,hf'];simp,_,e1,rfl,m,c,Ym,_,Zm,⟨by rw[hme];exact hd.mp,λx hx=>?_,hon.symm,e4⟩,rfl⟩;rcases mem_append.1 hx with hx|hx
   .exact hd.ok x (mem_append_left _ hx)
   .rcases mem_cons.1 hx with rfl|hx
    .rw[hf'];exact e3
    .exact hd.ok x (mem_append_right _ (Vn _ hx))
def Be.AI(S:Be)(k:Int)(n:Nat):Be:={S with fs:=S.EO k λf=>{f with b:=f.b.take n,s:=n}}
def qR{S:Be}{d:Nat}{h:Hp}(hd:Od S d h){k:Int}{x:yd}(hk:S.find k=some x)(hs:x.s=x.b.length){n:Nat}(hn:n<=x.b.length)(hb:x.b.length<=1099511627776)(hl:S.loose=[]):
  Ct prog 169 [d,k,.int .i64 (n:Int)] [h] (λr H'=>∃h',r= .int .i64 0/\H'=[h']/\Od (S.AI k n) d h'):=by
 obtain⟨m,c,lv,fs,lh,hd,rfl⟩:=hd;obtain⟨f,pre,post,rfl,rfl,hfn,hok,h1,h2,hv⟩:=hd.has hk;have hs:f.s=f.b.length:=hs;have hn:n<=f.b.length:=hn;have hb:f.b.length<=1099511627776:=hb;have hr:Rs f.b (.slice f.p f.l f.c) f.h:=ia.rs hok;have hlr:=hd.sl.rs;rw[hl] at hlr;have tg:((([]:List Pc).length:Nat):Int)=0:=rfl;have hto:=ia.to (m:=n) hok hn;refine Ct.pack (pre:=[Le d m lv,pe m (pre++f::post) c,lh,Dd pre,Yq f.blk (.slice f.p f.l f.c) f.s,f.h,Dd post]) (post:=λr H'=>r= .int .i64 0/\H'=[Le d m lv,pe m (pre++f::post) c,lh,Dd pre,Yq f.blk (.slice f.p n f.c) n,f.h,Dd post]) ?_ (by rw[Qd];simp) ?_
 .refine Tk func169 λg R=>?_;refine WX.lookup rfl rfl rfl ?_;rw[hv];try refine run ?_
  refine wr ?_;refine W.lo (α:=Nat) (λ_=>True) (λ_=>[(0,d),(1,k),(2,.int .i64 (n:Int)),(6,.int .i64 0),(7,f.blk),(9,.int .i64 (-1))]) (λ_=>[Le d m lv,pe m (pre++f::post) c,lh,Dd pre,Yq f.blk (.slice f.p f.l f.c) f.s,f.h,Dd post,R]) (λ_=>0) 0 trivial ?_;intro _ _;try refine run ?_
  have Ah:∀(g:World) w,Cf g (λv=>[Yq f.blk v f.s]) w->w.cell? ⟨f.blk,0+1,none⟩=some (.int .i64 (f.s:Int)):=λg w hw=>by
   obtain⟨v,h⟩:=hw;have h1:=h.2.2 f.blk _ (mem_singleton.2 rfl);rw[yg h1];rfl
  refine W.aV [true,true,true,true,true,false,true,true,true,true,true,true,true,true,true,true,false,true,true] (Cf g (λv=>[Yq f.blk v f.s])) (λw h=>Cf.of (.slice f.p f.l f.c) h) Tryz.mix (by kernel_rfl) ?_;rename_i g _ _;repeat' first|refine run ?_|refine WN.load rfl (Ah g) rfl ?_|refine WN.nil ?_|refine WN.P5 (λ_ h=>Cf.Q5 h) ?_|refine WN.OM ?_|refine WN.an ?_|refine WN.back (λw h=>Cf.of (.slice f.p f.l f.c) h) ?_|refine WN.back (λw h=>Cf.of (Ao (.slice f.p f.l f.c) n) h) ?_
  have hmn:(if(n:Int)<(f.s:Int) then(n:Int) else(f.s:Int))=(n:Int):=by split<;>omega
  rw[hmn,show Ao (.slice f.p f.l f.c) n= .slice f.p n f.c from rfl];exact Wi [Le d m lv,pe m (pre++f::post) c,lh,Dd pre,Yq f.blk (.slice f.p n f.c) n,f.h,Dd post]
 .rintro r _ ⟨rfl,rfl⟩;obtain⟨f',hf'⟩:∃f':Fl,f'={f with b:=f.b.take n,s:=n,l:=n}:=⟨_,rfl⟩;have hme:(pre++f'::post).map Fl.me=(pre++f::post).map Fl.me:=by rw[hf'];simp[Fl.me]
  have lV:pe m (pre++f'::post) c=pe m (pre++f::post) c:=by unfold pe;rw[hme]
  have hon:S.EO k (λf=>{f with b:=f.b.take n,s:=n})=(pre++f'::post).map Fl.file:=by
   unfold Be.EO;rw[<-hd.fs];exact HG h1 h2 hfn (by rw[hf'];rfl)
  refine⟨[Le d m lv++(pe m (pre++f'::post) c++(lh++Dd (pre++f'::post)))],by rw[Qd,lV,hf'];simp,_,rfl,rfl,m,c,lv,_,lh,⟨by rw[hme];exact hd.mp,λx hx=>?_,hon.symm,hd.sl⟩,rfl⟩;rcases mem_append.1 hx with hx|hx
  .exact hd.ok x (mem_append_left _ hx)
  .rcases mem_cons.1 hx with rfl|hx
   .rw[hf'];exact hto
   .exact hd.ok x (mem_append_right _ (Vn _ hx))
end Go.Proofs.YthebagfahkebiaaGreat
namespace Go.Sl
open Go List
variable{w':World}{α H:Type}{P:Program}{t:Nat}{f:FuncId}
def Yo(w:World):Hp:=w.heap.toList.zipIdx.map λx=>(x.2,x.1)
def jt{w:World}{b:Nat}{o:Obj}:(b,o)∈Yo w↔w.heap[b]? =some o:=by
 unfold Yo;rw[mem_map];constructor
 .rintro⟨⟨o',i⟩,hm,he⟩;cases he;have:=mem_zipIdx hm;simp at this;obtain⟨h1,h2⟩:=this;rw[Array.getElem?_eq_getElem h1,h2]
 .intro h;refine⟨(o,b),?_,rfl⟩;rw[mem_zipIdx_iff_getElem?];simpa using h
def iQ(w:World):on w (Yo w) w:=by
 refine⟨Ht.refl w,?_,λb o h=>jt.1 h⟩;unfold Yo;rw[map_map];have:(Prod.fst∘λx:Obj×Nat=>(x.2,x.1))=Prod.snd:=by funext x;rfl
 rw[this,zipIdx_map_snd];exact nodup_range'
def RH{w:World}(h:on w (Yo w) w'):RowKit.Below w.heap.size w w':=by
 refine⟨h.1.os,h.1.tape,h.1.output,h.1.size,λk hk=>?_⟩;have:=h.2.2 k _ (jt.2 (Array.getElem?_eq_getElem hk));rw[this,Array.getElem?_eq_getElem hk]
def AK{w:World}{p:Addr}{u:Value}(h:w.cell? p=some u){g:World}(ho:on g (Yo w) w'):w'.cell? p=some u:=by
 unfold World.cell? at h⊢
 cases hb:w.heap[p.block]? with
 |none=>simp[hb] at h
 |some o=>
  rw[ho.2.2 _ _ (jt.2 hb)];rwa [hb] at h
def R6[Qb α](w:World)(xs:List α)(v:Value):Prop:=
 ∃a c,v= .slice a xs.length c/\xs.length<=c/\∀k y,xs[k]? =some y->∃b off,a=some ⟨b,off,none⟩/\∀j u,(Qb.enc y)[j]? =some u->w.cell? ⟨b,off+(k*Qb.sz α+j),none⟩=some u
def R6.rs[Qb α]{w:World}{xs:List α}{v:Value}(h:R6 w xs v):Rs xs v (Yo w):=by
 obtain⟨a,c,e,le,f⟩:=h;refine⟨a,c,e,le,λk y hk=>?_⟩;obtain⟨b,off,e1,e2⟩:=f k y hk;exact⟨b,off,e1,λj u hu g w' ho=>AK (e2 j u hu) ho⟩
def JE(P:Program)(t:Nat)(α:Type)[Qb α](I:World->α->Prop):Prop:=
 ∀(H:Type) (enc:TypeId×Value->H) (w:World) (fuel:Nat) (cs:List Value) (x:DataW H×List MemPlace),DataW.trod enc P w 0 (λ_=>true) true fuel t cs=some x->(∀l∈x.1.weights P t,l<=reachBytes)->∃y:α,cs=Qb.enc y/\I w y
def X9(n:Int):Prop:= -9223372036854775808<=n/\n<=9223372036854775807
def HZ[ht:TU P t (.int .i64)]:JE P t Int (λ_ n=>X9 n):=by
 intro H enc w fuel cs x h _;obtain⟨n,rfl,_,hw⟩:=DataW.trod_int ht.h h;refine⟨n,rfl,?_⟩;simp[Lit.wf,IntKind.min,IntKind.max,IntKind.signed,IntKind.bits] at hw;exact hw
def MW[ht:TU P t .bool]:JE P t Bool (λ_ _=>True):=by
 intro H enc w fuel cs x h _;obtain⟨b,rfl,_⟩:=DataW.trod_bool ht.h h;exact⟨b,rfl,trivial⟩
def dF{e:Nat}[ht:TU P t (.slice e)]{elems spare:List (DataW H)}(h:∀l∈(DataW.slice elems spare).weights P t,l<=reachBytes):
  elems.length*P.bytesOf e<=reachBytes/\∀d∈elems,∀l∈d.weights P e,l<=reachBytes:=by
 simp only[DataW.weights,ht.h] at h;constructor
 .have:=h _ (qf);rw[Nat.add_mul] at this;omega
 .intro d hd l hl;refine h l (Vn _ (mem_append_left _ ?_));clear h
  induction elems with
  |nil=>cases hd
  |cons y r ih=>
   simp only[DataW.weightsAll];rcases mem_cons.1 hd with rfl|hd
   .exact mem_append_left _ hl
   .exact mem_append_right _ (ih hd)
def ze{H:Type}{P:Program}:∀{ts:List TypeId} {ds:List (DataW H)} {i:Nat} {t:TypeId} {d:DataW H},(∀l∈DataW.weightsEach P ts ds,l<=reachBytes)->ts[i]? =some t->ds[i]? =some d->∀l∈d.weights P t,l<=reachBytes
 |t::ts,d::ds,0,_,_,h,h1,h2,l,hl=>by
  cases h1;cases h2
  exact h l (by simp only[DataW.weightsEach];exact mem_append_left _ hl)
 |t::ts,d::ds,i+1,_,_,h,h1,h2,l,hl=>ze (ts:=ts) (ds:=ds) (i:=i) (λl hl=>h l (by simp only[DataW.weightsEach];exact mem_append_right _ hl)) (by simpa using h1) (by simpa using h2) l hl
 |[],_,_,_,_,_,h1,_,_,_=>by cases h1
 |_::_,[],_,_,_,_,_,h2,_,_=>by cases h2
def oU{e:Nat}[E:Qb α]{I:World->α->Prop}[ht:TU P t (.slice e)](hsz:P.cellsOf e=Qb.sz α)(he:JE P e α I){enc:TypeId×Value->H}{w:World}{fuel:Nat}{v:Value}{x:DataW H×List MemPlace}
  (h:DataW.trod enc P w 0 (λ_=>true) true fuel t [v]=some x)(jC:∀l∈x.1.weights P t,l<=reachBytes):
  ∃xs:List α,R6 w xs v/\(∀y∈xs,I w y)/\xs.length*P.bytesOf e<=reachBytes:=by
 rcases Deep.open_slice ht.h h with⟨hc,rfl⟩|⟨a,len,cap,m,n,D,Pl,hc,_,hl,hm,dV,rfl,hx⟩
 .simp only[List.cons.injEq,and_true] at hc;subst hc;exact⟨[],⟨none,0,rfl,Nat.le_refl _,(λk y hk=>by simp at hk)⟩,(λy hy=>by cases hy),by simp⟩
 .simp only[List.cons.injEq,and_true] at hc;subst hc;simp only[if_true] at dV;obtain⟨w1,w2⟩:=dF jC
  have key:∀i,i<len->∃y:α,w.cells? 0 (a.add (i*P.cellsOf e)) (P.cellsOf e)=some (Qb.enc y)/\I w y:=λi hi=>by
   obtain⟨cs',h1,h2⟩:=hx i (by omega);obtain⟨y,rfl,hy⟩:=he H enc w n cs' _ h2 (w2 (D i) (mem_map.2 ⟨i,mem_range.2 hi,rfl⟩));exact⟨y,h1,hy⟩
  have:∃xs:List α,xs.length=len/\∀i y,xs[i]? =some y->w.cells? 0 (a.add (i*P.cellsOf e)) (P.cellsOf e)=some (Qb.enc y)/\I w y:=by
   clear w1 w2 hx jC h hl hm dV
   induction len with
   |zero=>exact⟨[],rfl,λi y h=>by simp at h⟩
   |succ k ih=>
    obtain⟨xs,h1,h2⟩:=ih (λi hi=>key i (by omega));obtain⟨y,h3⟩:=key k (by omega);refine⟨xs++[y],by simp[h1],λi z hz=>?_⟩;rcases Nat.lt_or_ge i k with hlt|hge
    .exact h2 i z (by rwa [List.getElem?_append_left (by omega)] at hz)
    .rw[List.getElem?_append_right (by omega)] at hz
     have hi:i - xs.length=0:=by
      rcases Nat.eq_zero_or_pos (i - xs.length) with h|h
      .exact h
      .rw[List.getElem?_eq_none (by simp;omega)] at hz;cases hz
     rw[hi] at hz;cases hz;rw[show i=k by omega];exact h3
  obtain⟨xs,rfl,h2⟩:=this;refine⟨xs,⟨some a,cap,rfl,hl,λk y hk=>?_⟩,λy hy=>?_,?_⟩
  .obtain⟨h3,_⟩:=h2 k y hk;rw[hsz] at h3;obtain⟨_,hlen,hcell⟩:=World.cells?_some h3;obtain⟨b,off,spot⟩:=a;have hp:=Qb.pos (α:=α);have hlt:=(List.getElem?_eq_some_iff.1 hk).1
   have W4:spot=none:=by
    obtain⟨h4,_⟩:=h2 0 xs[0] (Wg (by omega));rw[hsz] at h4;obtain⟨_,kaa,IZ⟩:=World.cells?_some h4;have h5:=IZ 0 hp;rw[Wg (by omega)] at h5;have:=World.cell?_spot h5;simpa[Addr.add] using this
   subst W4;refine⟨b,off,rfl,λj u hu=>?_⟩;have hj:j<Qb.sz α:=by have:=(List.getElem?_eq_some_iff.1 hu).1;rwa [Qb.len] at this
   have:=hcell j hj;rw[hu,Xc,Xc] at this;rwa [Nat.add_assoc] at this
  .obtain⟨k,hk⟩:=mem_iff_getElem?.1 hy;exact(h2 k y hk).2
  .simpa using w1
section args
variable{H:Type}{enc:TypeId×Value->H}{P:Program}{W:World}{r:Reach}{base t e:Nat}{v:Value}{d:DataW H}{p:List MemPlace}
def ZG[ht:TU P t (.int .i64)](hv:Value.okWide P W r base t v)(h:DataW.Trod enc P W 0 (λ_=>true) true t v d p):∃n,v= .int .i64 n/\X9 n:=by
 obtain⟨x,rfl,_,_,hw⟩:=ChangeShapes.open_int ht.h hv h;refine⟨x,rfl,?_⟩;simp[Lit.wf,IntKind.min,IntKind.max,IntKind.signed,IntKind.bits] at hw;exact hw
def Uv{α:Type}[E:Qb α]{I:World->α->Prop}[ht:TU P t (.slice e)](hsz:P.cellsOf e=Qb.sz α)(he:JE P e α I)(hv:Value.okWide P W r base t v)(h:DataW.Trod enc P W 0 (λ_=>true) true t v d p)
  (jC:∀l∈d.weights P t,l<=reachBytes):∃xs:List α,R6 W xs v/\(∀y∈xs,I W y)/\xs.length*P.bytesOf e<=reachBytes:=by
 obtain⟨a,len,cap,rfl⟩:=WideShapes.okWide_slice ht.h hv;obtain⟨fuel,hf⟩:=h;exact oU (x:=(d,p)) hsz he hf jC
end args
def Vv{args:List Value}{W:World}(h:Ct P f args [Yo W] (λr H'=>r= .bool true/\H'=[Yo W])):
  Calls P f args.toArray W λe W'=>e= .returned (.bool true)/\RowKit.Below W.heap.size W W':=
 (h.calls W [] W (by simpa using iQ W)).mono λe W' ⟨v,H',he,⟨h1,h2⟩,ho⟩=>by
  subst h1;subst h2;exact⟨he,RH (by simpa using ho)⟩
def Ks{C:Checked}{os:Os}{fn:Func}{s:ChangeSpec}{enc:TypeId×Value->H}{tb:TypeId}
  (own:ownKnob C.prog.godebug=none)(started:os.Started)(noInit:C.prog.inits.idxOf? f=none)(hfn:C.prog.funcs[f]? =some fn)
  (witness:∃(w:World) (tape:Tape) (i:Input),w.os=os/\(w.forCall tape i).Shaped C.prog/\i.vars=[]/\Input.okWide C.prog (w.forCall tape i) .any w.heap.size f i/\
   s.pre6 enc C.prog fn [] false (w.forCall tape i).memory i.args/\({}:Assume).holds C.prog (lone (Frame.enter C.prog f i.args .normal) [] (w.forCall tape i)))
  (hlaid:laidOutB C.prog=true)(X4:(fn.params.toList.all λt=>C.prog.readableRec t && Nat.blt t C.prog.types.size)=true)
  (hres:fn.resultTypes= #[tb])(htb:C.prog.underlying tb=some .bool)(hvars:s.vars=[])
  (Y4:∀(ds:List (DataW H)),ds.length=fn.params.size->(s.fn H (ds++[])).results=[.lit (.bool true)]/\(s.fn H (ds++[])).args=ds/\(s.fn H (ds++[])).vars=[])
  (hrun:∀(W:World) (base:Nat) (args:Array Value) (ds:List (DataW H)) (p:List MemPlace),(∀(j:Nat) t v,fn.params[j]? =some t->args[j]? =some v->Value.okWide C.prog W .any base t v)->DataW.TrodAll enc C.prog W 0 (λ_=>true) true fn.params.toList args.toList ds p->
   (∀l∈DataW.weightsEach C.prog fn.params.toList ds,l<=reachBytes)->Calls C.prog f args W λe W'=>e= .returned (.bool true)/\RowKit.Below W.heap.size W W'):
  ReturnsInHanded {} C os f .any (s.pre6 enc C.prog fn [] false) (s.post enc C.prog fn false true false false):=by
 have hpar:∀t∈fn.params.toList,C.prog.readableRec t=true/\t<C.prog.types.size:=λt ht=>by
  have:=all_eq_true.1 X4 t ht;simp only[Bool.and_eq_true] at this;exact⟨this.1,Nat.le_of_ble_eq_true this.2⟩
 refine returnsInHanded_of_change_sized own started noInit hfn witness ?_;intro W base args ds gs before hval hW _ hsz _;have hW':=hW;obtain⟨p,q,hA,hV,rfl,hfz,Ix⟩:=hW;rw[hvars] at hV
 have hg:gs=[]/\q=[]:=by
  cases gs with
  |nil=>exact⟨rfl,hV⟩
  |cons _ _=>exact hV.elim
 obtain⟨rfl,rfl⟩:=hg
 have hvt:s.plain.varTypes C.prog=[]:=by
  simp[ChangeSpec.plain,DataSpec.varTypes,hvars]
 have jC:∀l∈DataW.weightsEach C.prog fn.params.toList ds,l<=reachBytes:=by
  have h1:(DataW.weightsEach C.prog (fn.params.toList++s.plain.varTypes C.prog) (ds++[])).all (· <=reachBytes)=true:=hsz;rw[hvt,append_nil,append_nil] at h1;intro l hl;simpa using all_eq_true.1 h1 l hl
 have hdl:ds.length=fn.params.size:=by simpa using(trodAll_length hA).2
 obtain⟨e1,e2,e3⟩:=Y4 ds hdl;refine(hrun W base args ds p hval hA jC).mono λe W' ⟨he,hb⟩=>?_;subst he
 have hargs:∀{ts:List TypeId} {vs:List Value} {ds:List (DataW H)} {p:List MemPlace},(∀t∈ts,C.prog.readableRec t=true/\t<C.prog.types.size)->DataW.TrodAll enc C.prog W 0 (λ_=>true) true ts vs ds p->(∀x∈p,x.block<W.heap.size)->
   DataW.TrodAll enc C.prog W' 0 (λb=>decide (b<W.heap.size)) true ts vs ds p:=by
  intro ts
  induction ts with
  |nil=>
   intro vs ds p _ h _
   cases vs<;>cases ds<;>first|exact h|exact h.elim
  |cons t ts ih=>
   intro vs ds p hp h hlt
   cases vs with
   |nil=>exact h.elim
   |cons v vs=>
    cases ds with
    |nil=>exact h.elim
    |cons d ds=>
     obtain⟨p1,p2,h1,h2,rfl⟩:=h;exact⟨p1,p2,RowKit.Below.trod hlaid (hp t qf).1 (hp t qf).2 h1 hb (λx hx=>hlt x (mem_append_left _ hx)),ih (λt ht=>hp t (Vn _ ht)) h2 (λx hx=>hlt x (mem_append_right _ hx)),rfl⟩
 have hlt:∀x∈p,x.block<W.heap.size:=DataW.TrodAll.lt hA;have Z4:fn.resultTypes.toList=[tb]:=by rw[hres]
 have hres2:fn.resultTypes.size=1:=by rw[hres];rfl
 refine⟨_,rfl,ds,[],_,[],p,[],hW',?_,?_,?_,hb.frame _,λh=>by cases h⟩
 .rw[e1,Z4,hres2];exact⟨[],[],RowKit.shut_bool htb true,rfl,rfl⟩
 .rw[e2];exact hargs hpar hA hlt
 .rw[hvars,e3];rfl
end Go.Sl
