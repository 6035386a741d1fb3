/- Texts of one road. -/
import Derived.WalkKit
import Derived.Deep.Quiet
import Derived.StillTail
import Derived.KernelRfl
import Derived.ChangeKeysEq
set_option linter.all false
set_option maxHeartbeats 8000000
set_option maxRecDepth 20000
namespace Go.Sl
open Go List
variable{α β:Type _}{i:Nat}{p:Prop}{a:α}{l:List α}
abbrev Hp:=List (Nat×Obj)
abbrev HH:=List Hp
abbrev Fm:=List (Nat×Value)
structure Ht(g w:World):Prop where
 os:w.os=g.os
 tape:w.tape=g.tape
 output:w.output=g.output
 size:g.heap.size<=w.heap.size
def Ht.refl(g:World):Ht g g:=⟨rfl,rfl,rfl,Nat.le_refl _⟩
def Ht.trans{a b c:World}(h:Ht a b)(k:Ht b c):Ht a c:=
 ⟨k.os.trans h.os,k.tape.trans h.tape,k.output.trans h.output,Nat.le_trans h.size k.size⟩
def on(g:World)(h:Hp)(w:World):Prop:=
 Ht g w/\(h.map Prod.fst).Nodup/\∀b o,(b,o)∈h->w.heap[b]? =some o
section
variable{g:World}{h h' r:Hp}{w w':World}{b:Nat}{o o':Obj}
def on.perm(p:h.Perm h')(H:on g h w):on g h' w:=
 ⟨H.1,(p.map Prod.fst).nodup_iff.1 H.2.1,λb o hm=>H.2.2 b o (p.mem_iff.2 hm)⟩
def on.sub(s:h'.Sublist h)(H:on g h w):on g h' w:=
 ⟨H.1,H.2.1.sublist (s.map Prod.fst),λb o hm=>H.2.2 b o (s.subset hm)⟩
def on.left(H:on g (h++r) w):on g h w:=H.sub (sublist_append_left _ _)
def on.right(H:on g (h++r) w):on g r w:=H.sub (sublist_append_right _ _)
def on.lt(H:on g h w)(m:(b,o)∈h):b<w.heap.size:=by
 have:=H.2.2 b o m;exact(Array.getElem?_eq_some_iff.1 this).1
def on.heap(H:on g h w)(e:w'.heap=w.heap)(a:Ht w w'):on g h w':=
 ⟨H.1.trans a,H.2.1,λb o m=>by rw[e];exact H.2.2 b o m⟩
def on.alloc(H:on g h w)(o:Obj):on g ((w.heap.size,o)::h) (w.alloc o):=by
 refine⟨⟨H.1.os,H.1.tape,H.1.output,?_⟩,?_,?_⟩
 .have:=H.1.size;simp only[World.size_alloc];omega
 .simp only[map_cons,nodup_cons];refine⟨λhm=>?_,H.2.1⟩;obtain⟨⟨b,o'⟩,hx,hb⟩:=mem_map.1 hm;have hlt:=H.lt hx;simp only at hb;omega
 .intro b o' hm;show(w.heap.push o)[b]? =some o';rcases mem_cons.1 hm with h1|h1
  .cases h1;simp
  .have:=H.lt h1;rw[Array.getElem?_push,if_neg (by omega)];exact H.2.2 b o' h1
def on.set{l:Hp}(H:on g (l++(b,o)::r) w)(a:Ht w w')(e:w'.heap[b]? =some o')(k:∀k,k≠b->w'.heap[k]? =w.heap[k]?):
  on g (l++(b,o')::r) w':=by
 have hn:=H.2.1;refine⟨H.1.trans a,by simpa using hn,λb' tZ hm=>?_⟩;simp only[map_append,map_cons] at hn;rw[nodup_append] at hn;obtain⟨_,hn2,x9⟩:=hn;rw[nodup_cons] at hn2;rcases mem_append.1 hm with h1|h1
 .have hne:b'≠b:=x9 b' (mem_map.2 ⟨_,h1,rfl⟩) b (mem_cons_self);rw[k b' hne];exact H.2.2 b' tZ (mem_append_left _ h1)
 .rcases mem_cons.1 h1 with h2|h2
  .cases h2;exact e
  .have hne:b'≠b:=λhb=>hn2.1 (hb▸mem_map.2 ⟨_,h2,rfl⟩);rw[k b' hne];exact H.2.2 b' tZ (mem_append_right _ (mem_cons_of_mem _ h2))
end
def lk:Fm->Nat->Option Value
 |[],_=>none
 |(j,v)::r,i=>match Nat.beq j i with
  |true=>some v
  |false=>lk r i
structure Fr(n:Nat)(L:Fm)(a:Act):Prop where
 defers:a.defers=[]
 size:a.tmps.size=n
 get:∀i v,lk L i=some v->a.tmps[i]? =some v
def ev(L:Fm):Operand->Option Value
 | .tmp t=>lk L t
 | .const v=>some v
 | .global g=>some (.pointer (some ⟨g,0,none⟩))
 | .func f=>some (.func (.func f) #[] #[])
def My(L:Fm):List Operand->Option (List Value)
 |[]=>some []
 |x::r=>match ev L x,My L r with
  |some v,some vs=>some (v::vs)
  |_,_=>none
section
variable{n:Nat}{L L':Fm}{a:Act}{v:Value}
def Fr.ev{x:Operand}(h:Fr n L a)(e:Sl.ev L x=some v):a.eval x=v:=by
 cases x with
 |tmp t=>have:=h.get t v e;simp[Act.eval,Array.getD_eq_getD_getElem?,this]
 |const u=>simpa[Sl.ev,Act.eval] using e
 |global g=>simpa[Sl.ev,Act.eval] using e
 |func f=>simpa[Sl.ev,Act.eval] using e
def Fr.My{xs:List Operand}{vs:List Value}(h:Fr n L a)(e:Sl.My L xs=some vs):xs.map a.eval=vs:=by
 induction xs generalizing vs with
 |nil=>simpa[Sl.My] using e
 |cons x r ih=>
  simp only[Sl.My] at e;split at e
  .rename_i u us hu Sn;cases e;simp[h.ev hu,ih Sn]
  .cases e
def Fr.put{d:Nat}(h:Fr n L a)(hd:d<n)(v:Value):Fr n ((d,v)::L) (a.put (some d) v):=by
 refine⟨h.defers,by simpa[Act.put] using h.size,λi u e=>?_⟩;simp only[lk] at e;simp only[Act.put];split at e
 .rename_i hb;have hi:=Nat.eq_of_beq_eq_true hb;subst hi;cases e;simp[h.size,hd]
 .rename_i hb;have hi:=Nat.ne_of_beq_eq_false hb;rw[Array.getElem?_setIfInBounds_ne hi];exact h.get i u e
def Fr.bO(h:Fr n L a)(v:Value):Fr n L (a.put none v):=h
def Fr.sub(h:Fr n L a)(s:∀i v,lk L' i=some v->lk L i=some v):Fr n L' a:=⟨h.defers,h.size,λi v e=>h.get i v (s i v e)⟩
end
def Aa(L L':Fm):Prop:=∀i v,lk L' i=some v->lk L i=some v
def Aa.nil{L:Fm}:Aa L []:=λ_ _ e=>by cases e
def Aa.cons{L L':Fm}{i:Nat}{v:Value}(h:lk L i=some v)(k:Aa L L'):Aa L ((i,v)::L'):=by
 intro j u e;simp only[lk] at e;split at e
 .rename_i hb;have hi:=Nat.eq_of_beq_eq_true hb;subst hi;cases e;exact h
 .exact k j u e
def Aa.refl(L:Fm):Aa L L:=λ_ _ e=>e
def Ia(H H':HH):Prop:=∃r,H.flatten.Perm (H'.flatten++r)
def Ia.on{g:World}{H H':HH}{w:World}(s:Ia H H')(h:on g H.flatten w):on g H'.flatten w:=
 let⟨_,p⟩:=s
 (h.perm p).left
class MQ(x:Hp)(H:HH)(H':outParam HH):Prop where
 p:H.flatten.Perm (x++H'.flatten)
instance(priority:=1010) MQ.head(x:Hp)(H:HH):MQ x (x::H) H:=⟨by simp⟩
instance(priority:=1000) MQ.tail(x y:Hp)(H H':HH)[k:MQ x H H']:MQ x (y::H) (y::H'):=⟨by
 simp only[flatten_cons];refine(List.Perm.append_left y k.p).trans ?_;rw[<-append_assoc,<-append_assoc];exact List.Perm.append_right _ perm_append_comm⟩
instance(priority:=1005) MQ.nil(H:HH):MQ [] H H:=⟨by simp⟩
instance(priority:=980) MQ.app(x y:Hp)(H H1 H2:HH)[k:MQ x H H1][l:MQ y H1 H2]:MQ (x++y) H H2:=⟨by
 rw[append_assoc];exact k.p.trans (List.Perm.append_left x l.p)⟩
class Oc(xs:HH)(H:HH)(H':outParam HH):Prop where
 p:H.flatten.Perm (xs.flatten++H'.flatten)
instance Oc.nil(H:HH):Oc [] H H:=⟨by simp⟩
instance Oc.cons(x:Hp)(xs H H' Vp:HH)[k:MQ x H H'][l:Oc xs H' Vp]:Oc (x::xs) H Vp:=⟨by
 simp only[flatten_cons,append_assoc];exact k.p.trans (List.Perm.append_left x l.p)⟩
instance Oc.yaa(ys H r:HH)[k:Oc ys H r]:Oc ([]++ys) H r:=k
instance Oc.zaa(x:Hp)(xs ys H r:HH)[k:Oc (x::(xs++ys)) H r]:Oc ((x::xs)++ys) H r:=k
def Ia.qa{H H' r:HH}(k:Oc H' H r):Ia H H':=⟨r.flatten,k.p⟩
class Tm(b:Nat)(o:outParam Obj)(H:HH)(K:outParam (Obj->HH)):Prop where
 p:∃l r,H.flatten=l++(b,o)::r/\∀x,(K x).flatten=l++(b,x)::r
instance(priority:=1010) Tm.head(b:Nat)(o:Obj)(h:Hp)(H:HH):Tm b o (((b,o)::h)::H) (λx=>((b,x)::h)::H):=
 ⟨[],h++H.flatten,by simp,by simp⟩
instance(priority:=1000) Tm.tail(b:Nat)(o:Obj)(h:Hp)(H:HH)(K:Obj->HH)[k:Tm b o H K]:Tm b o (h::H) (λx=>h::K x):=
 ⟨let⟨l,r,e,f⟩:=k.p;⟨h++l,r,by simp[e],λx=>by simp[f x]⟩⟩
def Tm.mem{b:Nat}{o:Obj}{H:HH}{K:Obj->HH}(k:Tm b o H K):(b,o)∈H.flatten:=by
 obtain⟨l,r,e,_⟩:=k.p;rw[e];simp
def Tm.heap{b:Nat}{o:Obj}{H:HH}{K:Obj->HH}{g w:World}(k:Tm b o H K)(h:on g H.flatten w):w.heap[b]? =some o:=h.2.2 b o k.mem
def Tm.set{b:Nat}{o o':Obj}{H:HH}{K:Obj->HH}{g w w':World}(k:Tm b o H K)(h:on g H.flatten w)(a:Ht w w')(e:w'.heap[b]? =some o')
  (f:∀k,k≠b->w'.heap[k]? =w.heap[k]?):on g (K o').flatten w':=by
 obtain⟨l,r,e1,e2⟩:=k.p;rw[e1] at h;rw[e2];exact h.set a e f
class Lu(x:Hp)(H:HH)(K:outParam (Hp->HH)):Prop where
 p:∃l r,H.flatten=l++x++r/\∀y,(K y).flatten=l++y++r
instance(priority:=1010) Lu.head(x:Hp)(H:HH):Lu x (x::H) (λy=>y::H):=⟨[],H.flatten,by simp,by simp⟩
instance(priority:=1000) Lu.tail(x h:Hp)(H:HH)(K:Hp->HH)[k:Lu x H K]:Lu x (h::H) (λy=>h::K y):=
 ⟨let⟨l,r,e,f⟩:=k.p;⟨h++l,r,by simp[e],λy=>by simp[f y]⟩⟩
instance(priority:=990) Lu.deep(x h:Hp)(y:Nat×Obj)(H:HH)(K:Hp->HH)[k:Lu x (h::H) K]:Lu x ((y::h)::H) (λz=>[y]::K z):=
 ⟨let⟨l,r,e,f⟩:=k.p;⟨y::l,r,by simpa using e,λz=>by simp[f z]⟩⟩
instance(priority:=990) Tm.Aaa(b:Nat)(o:Obj)(h h':Hp)(H:HH)(K:Obj->HH)[k:Tm b o (h::h'::H) K]:Tm b o ((h++h')::H) K:=
 ⟨let⟨l,r,e,f⟩:=k.p;⟨l,r,by simpa using e,f⟩⟩
instance:Coe Nat Value:=⟨λb=> .pointer (some ⟨b,0,none⟩)⟩
instance:Coe Int Value:=⟨λx=> .int .i64 x⟩
def rl:Bool->List Nat->List Bool
 |_,[]=>[]
 |b,n::t=>List.replicate n b++rl (!b) t
abbrev ml:=rl true
def Eb{as bs:List α}:(as++bs).length=as.length+bs.length:=length_append
def Ib{as:List α}:(a::as).length=as.length+1:=length_cons
def td:([]:List α).length=0:=length_nil
def Sc(as bs cs:List α):as++bs++cs=as++(bs++cs):=append_assoc as bs cs
def He{f:α->β}{as bs:List α}:List.map f (as++bs)=List.map f as++List.map f bs:=map_append
def Vn(y:α)(h:a∈l):a∈y::l:=mem_cons_of_mem y h
def qf:a∈a::l:=mem_cons_self
def Mca:l[i]? =some a↔∃h,l[i]=a:=List.getElem?_eq_some_iff
def bf{as:List α}(f:α->β):(as.map f).length=as.length:=length_map f
def Oe:(l.take i).length=min i l.length:=length_take
def Wg(h:i<l.length):l[i]? =some l[i]:=List.getElem?_eq_getElem h
def Mi[Decidable p](h:p):decide p=true:=_root_.decide_eq_true h
def rj[Decidable p](h: ¬p):decide p=false:=_root_.decide_eq_false h
def di(n:Nat):0<=n:=Nat.zero_le n
def Lh(h:i<l.length):∃x,l[i]? =some x:=⟨_,List.getElem?_eq_getElem h⟩
end Go.Sl
namespace Go.Sl
open Go
variable{α:Type _}
theorem ca{a:α}{nC bs:List α}:(a::nC)++bs=a::(nC++bs):=rfl
theorem na{bs:List α}:[]++bs=bs:=rfl
structure D(g:World)(Q:Exit->Act->World->Prop)(e:Exit)(n:Nat)(L:Fm)(H:HH):Prop where
 run:∀a w,Fr n L a->on g H.flatten w->Q e a w
structure W(g:World)(P:Program)(c:Code)(Q:Exit->Act->World->Prop)(n:Nat)(L:Fm)(H:HH):Prop where
 run:∀a w,Fr n L a->on g H.flatten w->c.wp P Q a w
def uZ(q:Bool)(g:World)(P:Program)(ops:Array Oper)(Q:Exit->Act->World->Prop)(os:List Oper)(H:HH)(a:Act)(w:World):Prop:=
 match q with
  |false=>wpList P ops Q os a w
  |true=>wpQuiet P ops (on g H.flatten) (λa'=>∀w',on g H.flatten w'->Q .normal a' w') os a
structure WX(q:Bool)(g:World)(P:Program)(ops:Array Oper)(Q:Exit->Act->World->Prop)(n:Nat)(os:List Oper)(L:Fm)(H:HH):Prop where
 run:∀a w,Fr n L a->on g H.flatten w->uZ q g P ops Q os H a w
instance{g:World}{Q:Exit->Act->World->Prop}{e:Exit}{n:Nat}{L:Fm}{H:HH}:CoeFun (D g Q e n L H) λ_=>∀a w,Fr n L a->on g H.flatten w->Q e a w:=⟨D.run⟩
instance{g:World}{P:Program}{c:Code}{Q:Exit->Act->World->Prop}{n:Nat}{L:Fm}{H:HH}:CoeFun (W g P c Q n L H) λ_=>∀a w,Fr n L a->on g H.flatten w->c.wp P Q a w:=⟨W.run⟩
instance{q:Bool}{g:World}{P:Program}{ops:Array Oper}{Q:Exit->Act->World->Prop}{n:Nat}{os:List Oper}{L:Fm}{H:HH}:CoeFun (WX q g P ops Q n os L H) λ_=>∀a w,Fr n L a->on g H.flatten w->uZ q g P ops Q os H a w:=⟨WX.run⟩
structure Ct(P:Program)(f:FuncId)(args:List Value)(pre:HH)(post:Value->HH->Prop):Prop where
 calls:∀(g:World) (R:Hp) (w:World),on g (pre++[R]).flatten w->Calls P f args.toArray w (λe w'=>∃v H',e= .returned v/\post v H'/\on g (H'++[R]).flatten w')
def Lr(g:World)(post:Value->HH->Prop)(R:Hp):Ending->World->Prop:=λe w'=>∃v H',e= .returned v/\post v H'/\on g (H'++[R]).flatten w'
class Enters(P:Program)(f:FuncId):Prop where
 e:∃fn,P.funcs[f]? =some fn/\(fn.name== "runtime.NumGoroutine")=false/\fn.body.isNone=false
class Mx(P:Program):Prop where
 h:P.follows .mixedOrders=true
theorem Enters.oo{P:Program}{f:FuncId}{fn:Func}(h:P.funcs[f]? =some fn)(a:(fn.name== "runtime.NumGoroutine")=false:=by kernel_rfl)(b:fn.body.isNone=false:=by kernel_rfl):Enters P f:=⟨⟨fn,h,a,b⟩⟩
def Ew:Nat->List Value->Fm
 |_,[]=>[]
 |k,v::r=>(k,v)::Ew (k+1) r
def kG:∀(vs:List Value) (k i:Nat) (v:Value),lk (Ew k vs) i=some v->k<=i/\vs[i - k]? =some v
 |[],_,_,_,h=>by cases h
 |u::r,k,i,v,h=>by
  simp only[Ew,lk] at h;split at h
  .rename_i hb;have hi:=Nat.eq_of_beq_eq_true hb;subst hi;cases h;simp
  .have h2:=kG r (k+1) i v h;obtain⟨h3,h4⟩:=h2;refine⟨by omega,?_⟩;rw[show i - k=(i - (k+1))+1 by omega,List.getElem?_cons_succ];exact h4
section
variable{g:World}{P:Program}{ops:Array Oper}{Q:Exit->Act->World->Prop}{n:Nat}{os rest:List Oper}{L L':Fm}{H H':HH}{q:Bool}
def Ct.mk'{f:FuncId}{args:List Value}{pre:HH}{post:Value->HH->Prop}{fn:Func}{c:Code}(hf:P.funcs[f]? =some fn)(hb:fn.body=some c)(hn:fn.ntmps=n)(ha:Nat.ble args.length n=true)
  (h:∀(g:World) (R:Hp),W g P c (bodyPost P fn (Lr g post R)) n (Ew 0 args) (pre++[R])):Ct P f args pre post:=by
 have ha:=Nat.le_of_ble_eq_true ha;refine⟨λg R w hw=>calls_of_wp hf hb (h g R _ w ⟨rfl,?_,?_⟩ hw)⟩
 .simp;omega
 .intro i v e;obtain⟨_,h2⟩:=kG _ _ _ _ e
  have hi:i<args.length:=by
   have:=(List.getElem?_eq_some_iff.1 h2).1;omega
  simp only[Nat.sub_zero] at h2;rw[Array.getElem?_append_left (by simpa using hi)];simpa using h2
def Ct.mono{f:FuncId}{args:List Value}{pre:HH}{post post':Value->HH->Prop}(h:Ct P f args pre post)(k:∀v H',post v H'->post' v H'):Ct P f args pre post':=
 ⟨λg R w hw=>(h.calls g R w hw).mono λ_ _ ⟨v,H',e,p,o⟩=>⟨v,H',e,k v H' p,o⟩⟩
def Ct.perm{f:FuncId}{args:List Value}{pre pre':HH}{post:Value->HH->Prop}(p:pre.flatten.Perm pre'.flatten)(h:Ct P f args pre post):Ct P f args pre' post:=
 ⟨λg R w hw=>h.calls g R w (hw.perm (by simpa using(List.Perm.append_right R p.symm)))⟩
-- weakening
def W.sub{c:Code}(f:Aa L L')(s:Ia H H')(h:W g P c Q n L' H'):W g P c Q n L H:= .mk λa w ha hw=>h a w (ha.sub f) (s.on hw)
def W.flat{c:Code}(s:H.flatten=H'.flatten)(h:W g P c Q n L H'):W g P c Q n L H:= .mk λa w ha hw=>h a w ha (s▸hw)
def WX.flat(s:H.flatten=H'.flatten)(h:WX q g P ops Q n os L H'):WX q g P ops Q n os L H:=by
 refine .mk λa w ha hw=>?_;have:=h a w ha (s▸hw);unfold uZ at this⊢;rw[<-s] at this;exact this
def W.f0{c:Code}(H':HH)(h:W g P c Q n L H')(s:H.flatten=H'.flatten:=by simp):W g P c Q n L H:= .mk λa w ha hw=>h a w ha (s▸hw)
def WX.f0(H':HH)(h:WX q g P ops Q n os L H')(s:H.flatten=H'.flatten:=by simp):WX q g P ops Q n os L H:=WX.flat s h
def D.flat{e:Exit}(s:H.flatten=H'.flatten)(h:D g Q e n L H'):D g Q e n L H:= .mk λa w ha hw=>h a w ha (s▸hw)
def W.keep{c:Code}(f:Aa L L')(h:W g P c Q n L' H):W g P c Q n L H:= .mk λa w ha hw=>h a w (ha.sub f) hw
def D.keep{e:Exit}(f:Aa L L')(h:D g Q e n L' H):D g Q e n L H:= .mk λa w ha hw=>h a w (ha.sub f) hw
def D.as{e:Exit}(t:Nat)(v:Value){u:Value}(ht:lk L t=some u)(eq:u=v)(h:D g Q e n ((t,v)::L) H):D g Q e n L H:=D.keep (Aa.cons (eq▸ht) (Aa.refl L)) h
def W.as{c:Code}(t:Nat)(v:Value){u:Value}(ht:lk L t=some u)(eq:u=v)(h:W g P c Q n ((t,v)::L) H):W g P c Q n L H:=W.keep (Aa.cons (eq▸ht) (Aa.refl L)) h
-- codes
def W.skip(h:D g Q .normal n L H):W g P .skip Q n L H:= .mk λa w ha hw=>wp_skip (h a w ha hw)
def W.exit{id:Nat}(h:D g Q (.exit id) n L H):W g P (.exit id) Q n L H:= .mk λa w ha hw=>wp_exit (h a w ha hw)
def W.ret(h:D g Q .ret n L H):W g P .ret Q n L H:= .mk λa w ha hw=>wp_ret (h a w ha hw)
def W.seq{x y:Code}(h:W g P x (Exit.then (y.wp P Q) Q) n L H):W g P (.seq x y) Q n L H:= .mk λa w ha hw=>wp_seq (h a w ha hw)
def W.block{id:Nat}{c:Code}(h:W g P c (Exit.inBlock id Q) n L H):W g P (.block id c) Q n L H:= .mk λa w ha hw=>wp_block (h a w ha hw)
def W.region{id:Nat}{l:List Oper}(h:WX false g P l.toArray Q n l L H):W g P (.region id l.toArray false) Q n L H:= .mk λa w ha hw=>wp_region_lit (h a w ha hw)
def W.quiet{id:Nat}{l:List Oper}(hm:P.follows .mixedOrders=true)(hB:Region.lexB .any l.toArray=true)(h:WX true g P l.toArray Q n l L H):
  W g P (.region id l.toArray true) Q n L H:= .mk λa w ha hw=>
 wp_region_quiet (C:=on g H.flatten) hm hB (hw.heap rfl ⟨rfl,rfl,rfl,Nat.le_refl _⟩) (by simpa[uZ] using h a w ha hw)
def W.yX{c:Operand}{x y:Code}(hc:ev L c=some (.bool true))(h:W g P x Q n L H):W g P (.cond c x y) Q n L H:= .mk λa w ha hw=>wp_cond_true (ha.ev hc) (h a w ha hw)
def W.zX{c:Operand}{x y:Code}(hc:ev L c=some (.bool false))(h:W g P y Q n L H):W g P (.cond c x y) Q n L H:= .mk λa w ha hw=>wp_cond_false (ha.ev hc) (h a w ha hw)
def W.cond{c:Operand}{x y:Code}{t:Bool}(hc:ev L c=some (.bool t))(ht:t=true->W g P x Q n L H)(hf:t=false->W g P y Q n L H):W g P (.cond c x y) Q n L H:=by
 cases t
 .exact W.zX hc (hf rfl)
 .exact W.yX hc (ht rfl)
def W.AX{c:Operand}{x y:Code}{p:Prop}[Decidable p](hc:ev L c=some (.bool (decide p)))(ht:p->W g P x Q n L H)(hf: ¬p->W g P y Q n L H):W g P (.cond c x y) Q n L H:=
 W.cond hc (λh=>ht (of_decide_eq_true h)) (λh=>hf (of_decide_eq_false h))
def W.D4{c:Operand}{x y:Code}{p:Prop}[Decidable p](hc:ev L c=some (.bool (decide p)))(hp:p)(h:W g P x Q n L H):W g P (.cond c x y) Q n L H:=W.AX hc (λ_=>h) (λk=>absurd hp k)
def W.E4{c:Operand}{x y:Code}{p:Prop}[Decidable p](hc:ev L c=some (.bool (decide p)))(hp: ¬p)(h:W g P y Q n L H):W g P (.cond c x y) Q n L H:=W.AX hc (λk=>absurd k hp) (λ_=>h)
-- ends
def D.seq{y:Code}(h:W g P y Q n L H):D g (Exit.then (y.wp P Q) Q) .normal n L H:= .mk λa w ha hw=>h a w ha hw
def D.blk{id:Nat}(h:D g Q .normal n L H):D g (Exit.inBlock id Q) .normal n L H:= .mk λa w ha hw=>h a w ha hw
def D.y9{id:Nat}(h:D g Q .ret n L H):D g (Exit.inBlock id Q) .ret n L H:= .mk λa w ha hw=>h a w ha hw
def D.A9{id:Nat}(h:D g Q .normal n L H):D g (Exit.inBlock id Q) (.exit id) n L H:= .mk λa w ha hw=>by
 show(if id=id then _ else _);rw[if_pos rfl];exact h a w ha hw
def D.B9{id id':Nat}(ne:Nat.beq id' id=false)(h:D g Q (.exit id') n L H):D g (Exit.inBlock id Q) (.exit id') n L H:= .mk λa w ha hw=>by
 show(if id'=id then _ else _);rw[if_neg (Nat.ne_of_beq_eq_false ne)];exact h a w ha hw
-- loops
def least{S:Nat->Prop}:∀(m:Nat),S m->∃k,S k/\∀j,S j->k<=j:=by
 intro m
 induction m using Nat.strongRecOn with
 |_ m ih=>
  intro h;by_cases h2:∃j,S j/\j<m
  .obtain⟨j,hj,hlt⟩:=h2;exact ih j hlt hj
  .exact⟨m,h,λj hj=>Nat.le_of_not_lt λhlt=>h2 ⟨j,hj,hlt⟩⟩
def Round{α:Type}(g:World)(p:α->Prop)(L:α->Fm)(H:α->HH)(μ:α->Nat)(n:Nat)(m:Nat):Act->World->Prop:=
 λa w=>∃y,p y/\μ y<m/\Fr n (L y) a/\on g (H y).flatten w
def W.loop{α:Type}{c:Code}(p:α->Prop)(Li:α->Fm)(Hi:α->HH)(μ:α->Nat)(x:α)(hp:p x)(f:Aa L (Li x))(s:Ia H (Hi x))
  (r:∀x,p x->W g P c (Exit.then (Round g p Li Hi μ n (μ x)) Q) n (Li x) (Hi x)):W g P (.loop c) Q n L H:=by
 refine .mk λa w ha hw=>?_
 let I:Act->World->Prop:=λa w=>∃y,p y/\Fr n (Li y) a/\on g (Hi y).flatten w
 have hI:I a w:=⟨x,hp,ha.sub f,s.on hw⟩
 let S:Act->World->Nat->Prop:=λa w m=>∃y,(p y/\Fr n (Li y) a/\on g (Hi y).flatten w)/\μ y=m
 have hS:∀a w,I a w->∃k,S a w k/\∀j,S a w j->k<=j:=λa w ⟨y,h⟩=>least (μ y) ⟨y,h,rfl⟩
 classical
 let M:Act->World->Nat:=λa w=>if h:I a w then Classical.choose (hS a w h) else 0
 refine wp_loop I M hI λa w hI=>?_;have hM:M a w=Classical.choose (hS a w hI):=dif_pos hI;obtain⟨⟨x,hc,hx⟩,_⟩:=Classical.choose_spec (hS a w hI);refine wp_mono (r x hc.1 a w hc.2.1 hc.2.2) λe a' w' hq=>?_;cases e<;>first|exact hq|obtain⟨y,hy,hlt,hf,ho⟩:=hq;have K6:I a' w':=⟨y,hy,hf,ho⟩;refine⟨K6,?_⟩;have hM':M a' w'=Classical.choose (hS a' w' K6):=dif_pos K6;have h2:=(Classical.choose_spec (hS a' w' K6)).2 (μ y) ⟨y,⟨hy,hf,ho⟩,rfl⟩;omega
def D.round{α:Type}{p:α->Prop}{Li:α->Fm}{Hi:α->HH}{μ:α->Nat}{m:Nat}(y:α)(hp:p y)(hm:μ y<m)(f:Aa L (Li y))(s:Ia H (Hi y)):
  D g (Exit.then (Round g p Li Hi μ n m) Q) .normal n L H:= .mk λ_ _ ha hw=>⟨y,hp,hm,ha.sub f,s.on hw⟩
def D.vZ{N:Act->World->Prop}{id:Nat}(h:D g Q (.exit id) n L H):D g (Exit.then N Q) (.exit id) n L H:= .mk λa w ha hw=>h a w ha hw
def D.wZ{N:Act->World->Prop}(h:D g Q .ret n L H):D g (Exit.then N Q) .ret n L H:= .mk λa w ha hw=>h a w ha hw
end
end Go.Sl
namespace Go.Sl
open Go List
variable{P:Program}{t off:Nat}
class TU(P:Program)(t:Nat)(d:outParam TypeDesc):Prop where
 h:P.underlying t=some d:=by kernel_rfl
def Vi:TypeDesc->Bool
 | .struct _| .array _ _=>true
 |_=>false
class TL(P:Program)(t:Nat)(k:outParam Nat)(agg:outParam Bool):Prop where
 s:(P.info? t).map (·.size)=some k:=by kernel_rfl
 a:(P.underlying t).map Vi=some agg:=by kernel_rfl
class TF(P:Program)(t f:Nat)(off:outParam Nat):Prop where
 h:∃fs fd,P.underlying t=some (.struct fs)/\fs[f]? =some fd/\fd.offset=off/\∃k,(P.info? fd.type).map (·.size)=some (k+1)
class Ae(P:Program)(t f:Nat)(off ft:outParam Nat):Prop where
 h:∃fs fd,P.underlying t=some (.struct fs)/\fs[f]? =some fd/\fd.offset=off/\fd.type=ft
class TZ(P:Program)(t:Nat)(zs:outParam (List Value)):Prop where
 h:∃i z,P.info? t=some i/\i.zero=some z/\z.cells=zs.toArray
class TP(P:Program)(t:Nat)(pl:outParam (List (Nat×Nat))):Prop where
 h:∃fs,P.underlying t=some (.struct fs)/\fs.toList.mapM (λf=>(P.info? f.type).map λi=>(f.offset,i.size))=some pl
def fieldInfo(P:Program)(t f:Nat):Option (Nat×Nat×Nat):=match P.underlying t with
 |some (.struct fs)=>(fs[f]?).bind λfd=>(P.info? fd.type).map λi=>(fd.offset,fd.type,i.size)
 |_=>none
def placesOf(P:Program)(t:Nat):Option (List (Nat×Nat)):=match P.underlying t with
 |some (.struct fs)=>fs.toList.mapM λf=>(P.info? f.type).map λi=>(f.offset,i.size)
 |_=>none
def setAt:List Value->Nat->List Value->List Value
 |cs,_,[]=>cs
 |cs,i,v::vs=>setAt (cs.set i v) (i+1) vs
section
variable{P:Program}{w:World}
theorem TZ.of{t:Nat}{zs:List Value}(h:((P.info? t).bind λi=>i.zero.map λz=>z.cells.toList)=some zs):TZ P t zs:=by
 cases hi:P.info? t with
 |none=>simp[hi] at h
 |some i=>
  cases hz:i.zero with
  |none=>simp[hi,hz] at h
  |some z=>simp only[hi,hz,Option.bind_some,Option.map_some,Option.some.injEq] at h;exact⟨i,z,hi,hz,by simp[<-h]⟩
def Mu{t f off ft k:Nat}(h:fieldInfo P t f=some (off,ft,k)):∃fs fd,P.underlying t=some (.struct fs)/\fs[f]? =some fd/\fd.offset=off/\fd.type=ft/\(P.info? fd.type).map (·.size)=some k:=by
 unfold fieldInfo at h;split at h
 .rename_i fs hu
  cases hf:fs[f]? with
  |none=>simp[hf] at h
  |some fd=>
   cases hi:P.info? fd.type with
   |none=>simp[hf,hi] at h
   |some i=>
    simp only[hf,hi,Option.bind_some,Option.map_some,Option.some.injEq,Prod.mk.injEq] at h;exact⟨fs,fd,hu,hf,h.1,h.2.1,by simp[hi,h.2.2]⟩
 .cases h
theorem TF.of{t f off ft k:Nat}(h:fieldInfo P t f=some (off,ft,k+1)):TF P t f off:=
 let⟨fs,fd,h1,h2,h3,_,h5⟩:=Mu h
 ⟨fs,fd,h1,h2,h3,k,h5⟩
theorem Ae.of{t f off ft k:Nat}(h:fieldInfo P t f=some (off,ft,k)):Ae P t f off ft:=
 let⟨fs,fd,h1,h2,h3,h4,_⟩:=Mu h
 ⟨fs,fd,h1,h2,h3,h4⟩
theorem TP.of{t:Nat}{pl:List (Nat×Nat)}(h:placesOf P t=some pl):TP P t pl:=by
 unfold placesOf at h;split at h
 .exact⟨_,‹_›,h⟩
 .cases h
def TL.sizeOf{t k:Nat}{b:Bool}(h:TL P t k b):(sizeOf t).run P w= .ok k w:=by
 obtain⟨s,_⟩:=h
 cases hi:P.info? t with
 |none=>simp[hi] at s
 |some i=>simp[hi] at s;simp[Go.sizeOf,typeInfo,hi,s]
def TL.isAgg{t k:Nat}{b:Bool}(h:TL P t k b):(isAgg t).run P w= .ok b w:=by
 obtain⟨_,a⟩:=h
 cases hu:P.underlying t with
 |none=>simp[hu] at a
 |some d=>simp only[hu,Option.map_some,Option.some.injEq] at a;subst a;cases d<;>simp[Go.isAgg,underlying,hu,Vi]
def TU.run{t:Nat}{d:TypeDesc}(h:TU P t d):(underlying t).run P w= .ok d w:=by simp[underlying,h.h]
def TZ.run{t:Nat}{zs:List Value}(h:TZ P t zs):∃z,(zeroValue t).run P w= .ok z w/\z.cells=zs.toArray:=by
 obtain⟨i,z,h1,h2,h3⟩:=h.h;exact⟨z,by simp[zeroValue,typeInfo,h1,h2],h3⟩
def Xc(b i k:Nat):Addr.add ⟨b,i,none⟩ k=⟨b,i+k,none⟩:=by
 unfold Addr.add;split<;>simp_all
def yg{b i T:Nat}{cs:List Value}{fr:Nat×Nat}(h:w.heap[b]? =some (.cells cs.toArray T fr)):w.cell? ⟨b,i,none⟩=cs[i]? :=by
 simp[World.cell?,h]
def YP{b i T:Nat}{cs:List Value}(h:w.heap[b]? =some (.cells cs.toArray T (0,0))):w.frozen? ⟨b,i,none⟩=false:=by
 simp[World.frozen?,h]
end
section
variable{g:World}{P:Program}{ops:Array Oper}{Q:Exit->Act->World->Prop}{n:Nat}{os rest:List Oper}{L L':Fm}{H H':HH}{q:Bool}
variable{d:Nat}{op:Op}{ty:TypeId}{pos:String}{af:Array Edge}{v:Value}
def WX.nil(k:D g Q .normal n L H):WX q g P ops Q n [] L H:=by
 refine .mk λa w ha hw=>?_;cases q
 .exact k a w ha hw
 .show wpQuiet P ops (on g H.flatten) (λa'=>∀w',on g H.flatten w'->Q .normal a' w') [] a;exact wpQuiet_nil λw' Oi=>k a w' ha Oi
def WX.val(he:∀a,Fr n L a->∀w,on g H.flatten w->(execOp a.eval ⟨some d,op,ty,pos,af,none⟩).run P w= .ok (.value v) w)(hd:Nat.blt d n=true)
  (k:WX q g P ops Q n rest ((d,v)::L) H):WX q g P ops Q n (⟨some d,op,ty,pos,af,none⟩::rest) L H:=by
 refine .mk λa w ha hw=>?_;have hd':d<n:=Nat.le_of_ble_eq_true hd;have hk:=k (a.put (some d) v) w (ha.put hd' v) hw;cases q
 .refine wpList_plain rfl λK hK=>?_;unfold Oper.wp;rw[he a ha w hw];exact hK _ _ hk
 .refine wpQuiet_step λK hK=>?_;simp only[Region.wanted,if_true];refine⟨v,λw' Oi=>?_,hK _ hk⟩;unfold Oper.quietAt;rw[he a ha w' Oi];exact⟨rfl,rfl⟩
def WX.xZ(hd:Nat.blt d n=true)(he:∀a w,Fr n L a->on g H.flatten w->∃v w' H',(execOp a.eval ⟨some d,op,ty,pos,af,none⟩).run P w= .ok (.value v) w'/\on g (List.flatten H') w'/\
   WX false g P ops Q n rest ((d,v)::L) H'):WX false g P ops Q n (⟨some d,op,ty,pos,af,none⟩::rest) L H:=by
 refine .mk λa w ha hw=>?_;have hd':d<n:=Nat.le_of_ble_eq_true hd;obtain⟨v,w',H',hr,ho,k⟩:=he a w ha hw;refine wpList_plain rfl λK hK=>?_;unfold Oper.wp;rw[hr];exact hK _ _ (k _ _ (ha.put hd' v) ho)
def WX.F4(he:∀a w,Fr n L a->on g H.flatten w->∃v w' H',(execOp a.eval ⟨none,op,ty,pos,af,none⟩).run P w= .ok (.value v) w'/\on g (List.flatten H') w'/\
   WX false g P ops Q n rest L H'):WX false g P ops Q n (⟨none,op,ty,pos,af,none⟩::rest) L H:=by
 refine .mk λa w ha hw=>?_;obtain⟨v,w',H',hr,ho,k⟩:=he a w ha hw;refine wpList_plain rfl λK hK=>?_;unfold Oper.wp;rw[hr];exact hK _ _ (k _ _ (ha.bO v) ho)
def WX.yZ(he:∀a w,Fr n L a->on g H.flatten w->∃w' H',(execOp a.eval ⟨none,op,ty,pos,af,none⟩).run P w= .ok .skip w'/\on g (List.flatten H') w'/\
   WX false g P ops Q n rest L H'):WX false g P ops Q n (⟨none,op,ty,pos,af,none⟩::rest) L H:=by
 refine .mk λa w ha hw=>?_;obtain⟨w',H',hr,ho,k⟩:=he a w ha hw;refine wpList_plain rfl λK hK=>?_;unfold Oper.wp;rw[hr];exact hK _ _ (k _ _ (ha.bO undef) ho)
-- guards
def WX.gy{dst:Option Tmp}{j t:Nat}{want:Bool}(hj:(ops[j]?).bind (·.dst)=some t)(ht:lk L t=some (.bool want))(k:WX q g P ops Q n (⟨dst,op,ty,pos,af,none⟩::rest) L H):
  WX q g P ops Q n (⟨dst,op,ty,pos,af,some (j,want)⟩::rest) L H:=by
 refine .mk λa w ha hw=>?_;have hy:yielded ops a.tmps j=some want:=by simp[yielded,hj,ha.get _ _ ht]
 have:=k a w ha hw;unfold uZ at this⊢;cases q
 .simp only[wpList,Region.wanted,hy,beq_self_eq_true,if_true] at this⊢;exact this
 .simp only[wpQuiet,Region.wanted,hy,beq_self_eq_true,if_true] at this⊢;exact this
def WX.gn{j t:Nat}{want b:Bool}(hj:(ops[j]?).bind (·.dst)=some t)(ht:lk L t=some (.bool b))(hne:(b==want)=false)(hd:Nat.blt d n=true)(k:WX q g P ops Q n rest ((d,undef)::L) H):
  WX q g P ops Q n (⟨some d,op,ty,pos,af,some (j,want)⟩::rest) L H:=by
 refine .mk λa w ha hw=>?_;have hd':d<n:=Nat.le_of_ble_eq_true hd;have hy:(yielded ops a.tmps j==some want)=false:=by simp[yielded,hj,ha.get _ _ ht];simpa using hne
 have:=k (a.put (some d) undef) w (ha.put hd' undef) hw;unfold uZ at this⊢;cases q
 .simp only[wpList,Region.wanted,hy,Bool.false_eq_true,if_false];exact this
 .simp only[wpQuiet,Region.wanted,hy,Bool.false_eq_true,if_false];exact this
def WX.split(t:Nat){b:Bool}(ht:lk L t=some (.bool b))(h1:b=true->WX q g P ops Q n os ((t,.bool true)::L) H)(h2:b=false->WX q g P ops Q n os ((t,.bool false)::L) H):WX q g P ops Q n os L H:=by
 have f:∀c,b=c->Aa L ((t,.bool c)::L):=λc hc=>Aa.cons (hc▸ht) (Aa.refl L);cases b
 .exact .mk λa w ha hw=>h2 rfl a w (ha.sub (f _ rfl)) hw
 .exact .mk λa w ha hw=>h1 rfl a w (ha.sub (f _ rfl)) hw
def WX.WT(t:Nat){p:Prop}[Decidable p](ht:lk L t=some (.bool (decide p)))(h1:p->WX q g P ops Q n os ((t,.bool true)::L) H)(h2: ¬p->WX q g P ops Q n os ((t,.bool false)::L) H):WX q g P ops Q n os L H:=
 WX.split t ht (λh=>h1 (of_decide_eq_true h)) (λh=>h2 (of_decide_eq_false h))
def WX.gT{dst:Option Tmp}{j t:Nat}{want:Bool}{p:Prop}[Decidable p](hj:(ops[j]?).bind (·.dst)=some t)(ht:lk L t=some (.bool (decide p)))(hp:p)(k:WX q g P ops Q n (⟨dst,op,ty,pos,af,some (j,want)⟩::rest) ((t,.bool true)::L) H):
  WX q g P ops Q n (⟨dst,op,ty,pos,af,some (j,want)⟩::rest) L H:=WX.WT t ht (λ_=>k) (λh=>absurd hp h)
def WX.gF{dst:Option Tmp}{j t:Nat}{want:Bool}{p:Prop}[Decidable p](hj:(ops[j]?).bind (·.dst)=some t)(ht:lk L t=some (.bool (decide p)))(hp: ¬p)(k:WX q g P ops Q n (⟨dst,op,ty,pos,af,some (j,want)⟩::rest) ((t,.bool false)::L) H):
  WX q g P ops Q n (⟨dst,op,ty,pos,af,some (j,want)⟩::rest) L H:=WX.WT t ht (λh=>absurd h hp) (λ_=>k)
def WX.as(t:Nat)(v:Value){u:Value}(ht:lk L t=some u)(e:u=v)(h:WX q g P ops Q n os ((t,v)::L) H):WX q g P ops Q n os L H:=
 .mk λa w ha hw=>h a w (ha.sub (Aa.cons (e▸ht) (Aa.refl L))) hw
-- plain values
def WX.move{x:Operand}(hx:ev L x=some v)(hd:Nat.blt d n=true)(k:WX q g P ops Q n rest ((d,v)::L) H):WX q g P ops Q n (⟨some d,.move x,ty,pos,af,none⟩::rest) L H:=
 WX.val (λa ha w _=>by simp[execOp,ha.ev hx]) hd k
def WX.assign{x:Operand}(hx:ev L x=some v)(hd:Nat.blt d n=true)(k:WX q g P ops Q n rest ((d,v)::L) H):WX q g P ops Q n (⟨some d,.assign x,ty,pos,af,none⟩::rest) L H:=
 WX.val (λa ha w _=>by simp[execOp,ha.ev hx]) hd k
def WX.G4{c x y:Operand}(hc:ev L c=some (.bool true))(hx:ev L x=some v)(hd:Nat.blt d n=true)
  (k:WX q g P ops Q n rest ((d,v)::L) H):WX q g P ops Q n (⟨some d,.pick c x y,ty,pos,af,none⟩::rest) L H:=
 WX.val (λa ha w _=>by simp[execOp,ha.ev hc,ha.ev hx,asBool]) hd k
def WX.I4{c x y:Operand}(hc:ev L c=some (.bool false))(hx:ev L y=some v)(hd:Nat.blt d n=true)
  (k:WX q g P ops Q n rest ((d,v)::L) H):WX q g P ops Q n (⟨some d,.pick c x y,ty,pos,af,none⟩::rest) L H:=
 WX.val (λa ha w _=>by simp[execOp,ha.ev hc,ha.ev hx,asBool]) hd k
def WX.nilCheck{x:Operand}{p:Addr}(hx:ev L x=some (.pointer (some p)))(hd:Nat.blt d n=true)(k:WX q g P ops Q n rest ((d,.pointer (some p))::L) H):
  WX q g P ops Q n (⟨some d,.nilCheck x,ty,pos,af,none⟩::rest) L H:=
 WX.val (λa ha w _=>by simp[execOp,ha.ev hx]) hd k
-- integers
section ints
variable{x y:Operand}{t t':Nat}{i j:Int}{kd:IntKind}
def Wc{op:BinOp}{a:Act}{vx vy r:Value}{w:World}(hx:a.eval x=vx)(hy:a.eval y=vy)(h1:(eqGuard op t x y vx vy).run P w= .ok () w)(h2:(binOp op t vx vy).run P w= .ok r w):
  (execOp a.eval ⟨some d,.binOp op t x y t',ty,pos,af,none⟩).run P w= .ok (.value r) w:=by
 simp[execOp,hx,hy,h1,h2]
def qb{op:BinOp}{w:World}:(eqGuard op t x y (.int kd i) (.int kd j)).run P w= .ok () w:=by
 unfold eqGuard;cases op<;>rfl
def WX.add(hx:ev L x=some (.int .i64 i))(hy:ev L y=some (.int .i64 j))(hd:Nat.blt d n=true)(r: -9223372036854775808<=i+j/\i+j<=9223372036854775807)
  (k:WX q g P ops Q n rest ((d,.int .i64 (i+j))::L) H):WX q g P ops Q n (⟨some d,.binOp .add t x y t',ty,pos,af,none⟩::rest) L H:=
 WX.val (λa ha w _=>Wc (ha.ev hx) (ha.ev hy) qb (by simp[binOp,Op.intArith,IntWalk.i64_in _ r])) hd k
def WX.sub'(hx:ev L x=some (.int .i64 i))(hy:ev L y=some (.int .i64 j))(hd:Nat.blt d n=true)(r: -9223372036854775808<=i - j/\i - j<=9223372036854775807)
  (k:WX q g P ops Q n rest ((d,.int .i64 (i - j))::L) H):WX q g P ops Q n (⟨some d,.binOp .sub t x y t',ty,pos,af,none⟩::rest) L H:=
 WX.val (λa ha w _=>Wc (ha.ev hx) (ha.ev hy) qb (by simp[binOp,Op.intArith,IntWalk.i64_in _ r])) hd k
def WX.mul(hx:ev L x=some (.int .i64 i))(hy:ev L y=some (.int .i64 j))(hd:Nat.blt d n=true)(r: -9223372036854775808<=i*j/\i*j<=9223372036854775807)
  (k:WX q g P ops Q n rest ((d,.int .i64 (i*j))::L) H):WX q g P ops Q n (⟨some d,.binOp .mul t x y t',ty,pos,af,none⟩::rest) L H:=
 WX.val (λa ha w _=>Wc (ha.ev hx) (ha.ev hy) qb (by simp[binOp,Op.intArith,IntWalk.i64_in _ r])) hd k
def WX.rW(hx:ev L x=some (.int kd i))(hy:ev L y=some (.int kd j))(hd:Nat.blt d n=true)
  (k:WX q g P ops Q n rest ((d,.int kd (kd.wrap (i+j)))::L) H):WX q g P ops Q n (⟨some d,.binOp .add t x y t',ty,pos,af,none⟩::rest) L H:=
 WX.val (λa ha w _=>Wc (ha.ev hx) (ha.ev hy) qb (by simp[binOp,Op.intArith])) hd k
def WX.rem(hx:ev L x=some (.int kd i))(hy:ev L y=some (.int kd j))(hd:Nat.blt d n=true)(r:j≠0)
  (k:WX q g P ops Q n rest ((d,.int kd (i.tmod j))::L) H):WX q g P ops Q n (⟨some d,.binOp .rem t x y t',ty,pos,af,none⟩::rest) L H:=
 WX.val (λa ha w _=>Wc (ha.ev hx) (ha.ev hy) qb (by simp[binOp,Op.intDiv,r])) hd k
def WX.quo(hx:ev L x=some (.int kd i))(hy:ev L y=some (.int kd j))(hd:Nat.blt d n=true)(r:j≠0)
  (k:WX q g P ops Q n rest ((d,.int kd (kd.wrap (i.tdiv j)))::L) H):WX q g P ops Q n (⟨some d,.binOp .quo t x y t',ty,pos,af,none⟩::rest) L H:=
 WX.val (λa ha w _=>Wc (ha.ev hx) (ha.ev hy) qb (by simp[binOp,Op.intDiv,r])) hd k
def WX.lss(hx:ev L x=some (.int kd i))(hy:ev L y=some (.int kd j))(hd:Nat.blt d n=true)
  (k:WX q g P ops Q n rest ((d,.bool (decide (i<j)))::L) H):WX q g P ops Q n (⟨some d,.binOp .lss t x y t',ty,pos,af,none⟩::rest) L H:=
 WX.val (λa ha w _=>Wc (ha.ev hx) (ha.ev hy) qb (by simp[binOp,Op.intCmp])) hd k
def WX.leq(hx:ev L x=some (.int kd i))(hy:ev L y=some (.int kd j))(hd:Nat.blt d n=true)
  (k:WX q g P ops Q n rest ((d,.bool (decide (i<=j)))::L) H):WX q g P ops Q n (⟨some d,.binOp .leq t x y t',ty,pos,af,none⟩::rest) L H:=
 WX.val (λa ha w _=>Wc (ha.ev hx) (ha.ev hy) qb (by simp[binOp,Op.intCmp])) hd k
def WX.gtr(hx:ev L x=some (.int kd i))(hy:ev L y=some (.int kd j))(hd:Nat.blt d n=true)
  (k:WX q g P ops Q n rest ((d,.bool (decide (j<i)))::L) H):WX q g P ops Q n (⟨some d,.binOp .gtr t x y t',ty,pos,af,none⟩::rest) L H:=
 WX.val (λa ha w _=>Wc (ha.ev hx) (ha.ev hy) qb (by simp[binOp,Op.intCmp])) hd k
def WX.geq(hx:ev L x=some (.int kd i))(hy:ev L y=some (.int kd j))(hd:Nat.blt d n=true)
  (k:WX q g P ops Q n rest ((d,.bool (decide (j<=i)))::L) H):WX q g P ops Q n (⟨some d,.binOp .geq t x y t',ty,pos,af,none⟩::rest) L H:=
 WX.val (λa ha w _=>Wc (ha.ev hx) (ha.ev hy) qb (by simp[binOp,Op.intCmp])) hd k
def WX.eql(hx:ev L x=some (.int kd i))(hy:ev L y=some (.int kd j))(hd:Nat.blt d n=true)
  (k:WX q g P ops Q n rest ((d,.bool (decide (i=j)))::L) H):WX q g P ops Q n (⟨some d,.binOp .eql t x y t',ty,pos,af,none⟩::rest) L H:=
 WX.val (λa ha w _=>Wc (ha.ev hx) (ha.ev hy) qb (by simp[binOp,Op.intCmp];rfl)) hd k
def WX.neq(hx:ev L x=some (.int kd i))(hy:ev L y=some (.int kd j))(hd:Nat.blt d n=true)
  (k:WX q g P ops Q n rest ((d,.bool (decide (¬i=j)))::L) H):WX q g P ops Q n (⟨some d,.binOp .neq t x y t',ty,pos,af,none⟩::rest) L H:=
 WX.val (λa ha w _=>Wc (ha.ev hx) (ha.ev hy) qb (by simp[binOp,Op.intCmp,bne];rfl)) hd k
end ints
-- truth values
section J4
variable{x y:Operand}{t t':Nat}{b c:Bool}
def WX.not(hx:ev L x=some (.bool b))(hd:Nat.blt d n=true)(k:WX q g P ops Q n rest ((d,.bool (!b))::L) H):
  WX q g P ops Q n (⟨some d,.unOp .not t x,ty,pos,af,none⟩::rest) L H:=
 WX.val (λa ha w _=>by simp[execOp,ha.ev hx,Op.unary]) hd k
def WX.C9{p:Prop}[Decidable p](hx:ev L x=some (.bool (decide p)))(hd:Nat.blt d n=true)(k:WX q g P ops Q n rest ((d,.bool (decide (¬p)))::L) H):
  WX q g P ops Q n (⟨some d,.unOp .not t x,ty,pos,af,none⟩::rest) L H:=
 WX.not hx hd (by simpa using k)
def WX.D9(hx:ev L x=some (.bool b))(hy:ev L y=some (.bool c))(hd:Nat.blt d n=true)[ht:TU P t .bool]
  (k:WX q g P ops Q n rest ((d,.bool (!(b==c)))::L) H):WX q g P ops Q n (⟨some d,.binOp .neq t x y t',ty,pos,af,none⟩::rest) L H:=
 WX.val (λa ha w _=>Wc (ha.ev hx) (ha.ev hy) (by unfold eqGuard;rfl) (by simp[binOp,Op.equal,Op.maxDepth,run_equalIn_bool' w _ t b c ht.h])) hd k
end J4
-- pointers against nil
section E9
variable{x y:Operand}{t t' e:Nat}{p:Addr}
def Nh{op:BinOp}{w:World}{p q:Option Addr}:(eqGuard op t x y (.pointer p) (.pointer q)).run P w= .ok () w:=by
 unfold eqGuard;cases op<;>rfl
def Jp{p:Option Addr}{w:World}(k:Nat)[ht:TU P t (.pointer e)]:(Op.equalIn (k+1) t (.pointer p) (.pointer none)).run P w= .ok p.isNone w:=by
 cases p<;>simp[Op.equalIn,ht.run]
def ux{p:Option Addr}{w:World}[ht:TU P t (.pointer e)]:(binOp .eql t (.pointer p) (.pointer none)).run P w= .ok (.bool p.isNone) w:=by
 show((do pure (.bool (<-Op.equalIn 10000 t (.pointer p) (.pointer none))):Sem Value)).run P w=_;rw[Sem.run_bind,Jp (t:=t) (e:=e) 9999];rfl
def xx{p:Option Addr}{w:World}[ht:TU P t (.pointer e)]:(binOp .neq t (.pointer p) (.pointer none)).run P w= .ok (.bool (!p.isNone)) w:=by
 show((do pure (.bool (!(<-Op.equalIn 10000 t (.pointer p) (.pointer none)))):Sem Value)).run P w=_;rw[Sem.run_bind,Jp (t:=t) (e:=e) 9999];rfl
def WX.F9(hx:ev L x=some (.pointer (some p)))(hy:ev L y=some (.pointer none))(hd:Nat.blt d n=true)[ht:TU P t (.pointer e)]
  (k:WX q g P ops Q n rest ((d,.bool false)::L) H):WX q g P ops Q n (⟨some d,.binOp .eql t x y t',ty,pos,af,none⟩::rest) L H:=
 WX.val (λa ha w _=>Wc (ha.ev hx) (ha.ev hy) Nh (ux (e:=e))) hd k
def WX.G9(hx:ev L x=some (.pointer (some p)))(hy:ev L y=some (.pointer none))(hd:Nat.blt d n=true)[ht:TU P t (.pointer e)]
  (k:WX q g P ops Q n rest ((d,.bool true)::L) H):WX q g P ops Q n (⟨some d,.binOp .neq t x y t',ty,pos,af,none⟩::rest) L H:=
 WX.val (λa ha w _=>Wc (ha.ev hx) (ha.ev hy) Nh (xx (e:=e))) hd k
def WX.H9(hx:ev L x=some (.pointer none))(hy:ev L y=some (.pointer none))(hd:Nat.blt d n=true)[ht:TU P t (.pointer e)]
  (k:WX q g P ops Q n rest ((d,.bool true)::L) H):WX q g P ops Q n (⟨some d,.binOp .eql t x y t',ty,pos,af,none⟩::rest) L H:=
 WX.val (λa ha w _=>Wc (ha.ev hx) (ha.ev hy) Nh (ux (e:=e))) hd k
def WX.I9(hx:ev L x=some (.pointer none))(hy:ev L y=some (.pointer none))(hd:Nat.blt d n=true)[ht:TU P t (.pointer e)]
  (k:WX q g P ops Q n rest ((d,.bool false)::L) H):WX q g P ops Q n (⟨some d,.binOp .neq t x y t',ty,pos,af,none⟩::rest) L H:=
 WX.val (λa ha w _=>Wc (ha.ev hx) (ha.ev hy) Nh (xx (e:=e))) hd k
end E9
-- lengths
section lens
variable{x y:Operand}{t:Nat}
def Lm{bi:Builtin}{args:List Operand}{ts:Array TypeId}{a:Act}{vs:List Value}{r:Value}{w w':World}(hx:args.map a.eval=vs)
  (h:(builtin bi ts ty (args.toArray.map λ| .const _=>true|_=>false) vs.toArray).run P w= .ok (.value r) w'){dst:Option Nat}:
  (execOp a.eval ⟨dst,.call ⟨.builtin bi,args.toArray,ts⟩,ty,pos,af,none⟩).run P w= .ok (.value r) w':=by
 have e:args.toArray.map a.eval=vs.toArray:=by rw[<-hx];simp
 simp only[execOp,resolve,e];exact h
def WX.len{e:Nat}{p:Option Addr}{l c:Nat}(hx:ev L x=some (.slice p l c))(hd:Nat.blt d n=true)[ht:TU P t (.slice e)](k:WX q g P ops Q n rest ((d,.int .i64 l)::L) H):
  WX q g P ops Q n (⟨some d,.call ⟨.builtin .len, #[x], #[t]⟩,ty,pos,af,none⟩::rest) L H:=
 WX.val (λa ha w _=>Lm (args:=[x]) (by simp[ha.ev hx];rfl) (by simp[builtin,Builtin.len_,ht.run,goInt])) hd k
def WX.J9{s:ByteArray}(hx:ev L x=some (.string s))(hd:Nat.blt d n=true)[ht:TU P t .string](k:WX q g P ops Q n rest ((d,.int .i64 s.size)::L) H):
  WX q g P ops Q n (⟨some d,.call ⟨.builtin .len, #[x], #[t]⟩,ty,pos,af,none⟩::rest) L H:=
 WX.val (λa ha w _=>Lm (args:=[x]) (by simp[ha.ev hx];rfl) (by simp[builtin,Builtin.len_,ht.run,goInt])) hd k
def WX.min{i j:Int}{kd:IntKind}{ts:Array TypeId}(hx:ev L x=some (.int kd i))(hy:ev L y=some (.int kd j))(hd:Nat.blt d n=true)(k:WX q g P ops Q n rest ((d,.int kd (if j<i then j else i))::L) H):
  WX q g P ops Q n (⟨some d,.call ⟨.builtin .min, #[x,y],ts⟩,ty,pos,af,none⟩::rest) L H:=
 WX.val (λa ha w _=>Lm (args:=[x,y]) (by simp[ha.ev hx,ha.ev hy];rfl) (by simp[builtin,Builtin.min_,Builtin.min2])) hd k
def WX.max{i j:Int}{kd:IntKind}{ts:Array TypeId}(hx:ev L x=some (.int kd i))(hy:ev L y=some (.int kd j))(hd:Nat.blt d n=true)(k:WX q g P ops Q n rest ((d,.int kd (if j>i then j else i))::L) H):
  WX q g P ops Q n (⟨some d,.call ⟨.builtin .max, #[x,y],ts⟩,ty,pos,af,none⟩::rest) L H:=
 WX.val (λa ha w _=>Lm (args:=[x,y]) (by simp[ha.ev hx,ha.ev hy];rfl) (by simp[builtin,Builtin.max_,Builtin.max2])) hd k
end lens
def WX.extract{x:Operand}{i:Nat}{vs:List Value}(hx:ev L x=some (.tuple vs.toArray))(hi:vs[i]? =some v)(hd:Nat.blt d n=true)(k:WX q g P ops Q n rest ((d,v)::L) H):
  WX q g P ops Q n (⟨some d,.extract x i,ty,pos,af,none⟩::rest) L H:=
 WX.val (λa ha w _=>by simp[execOp,ha.ev hx,Instr.extract,hi]) hd k
-- conversions
def WX.conv{x:Operand}{i:Int}{kd aI:IntKind}{t t':Nat}{ds:TypeDesc}(hx:ev L x=some (.int kd i))(hd:Nat.blt d n=true)[h1:TU P t ds][h2:TU P t' (.int aI)](r:aI.wrap i=i)
  (k:WX q g P ops Q n rest ((d,.int aI i)::L) H):WX q g P ops Q n (⟨some d,.convert t t' x,ty,pos,af,none⟩::rest) L H:=
 WX.val (λa ha w _=>by simp[execOp,ha.ev hx,convert,h1.run,h2.run,Conv.intToInt,r]) hd k
def WX.eG{x:Operand}{i:Int}{kd aI:IntKind}{t t':Nat}{ds:TypeDesc}(hx:ev L x=some (.int kd i))(hd:Nat.blt d n=true)[h1:TU P t ds][h2:TU P t' (.int aI)]
  (k:WX q g P ops Q n rest ((d,.int aI (aI.wrap i))::L) H):WX q g P ops Q n (⟨some d,.convert t t' x,ty,pos,af,none⟩::rest) L H:=
 WX.val (λa ha w _=>by simp[execOp,ha.ev hx,convert,h1.run,h2.run,Conv.intToInt]) hd k
-- addresses
def WX.fieldAddr{x:Operand}{t f b i off:Nat}(hx:ev L x=some (.pointer (some ⟨b,i,none⟩)))(hd:Nat.blt d n=true)[h:TF P t f off](k:WX q g P ops Q n rest ((d,.pointer (some ⟨b,i+off,none⟩))::L) H):
  WX q g P ops Q n (⟨some d,.fieldAddr t x f,ty,pos,af,none⟩::rest) L H:=
 WX.val (λa ha w _=>by
  obtain⟨fs,fd,h1,h2,h3,k,h4⟩:=h.h
  cases hi:P.info? fd.type with
  |none=>simp[hi] at h4
  |some inf=>
   simp[hi] at h4;simp[execOp,ha.ev hx,Instr.fieldAt,underlying,h1,h2,Instr.sureAddr,fieldPlace,Go.sizeOf,typeInfo,hi,h4,h3,Xc]) hd k
-- loads
def WX.BX{x:Operand}{t:Nat}{p:Addr}(hx:ev L x=some (.pointer (some p)))[ht:TL P t 1 false](hr:∀w,on g H.flatten w->w.cell? p=some v)(hd:Nat.blt d n=true)(k:WX q g P ops Q n rest ((d,v)::L) H):
  WX q g P ops Q n (⟨some d,.load t x,ty,pos,af,none⟩::rest) L H:=
 WX.val (λa ha w hw=>by simp[execOp,ha.ev hx,Instr.loadAt,Instr.sureAddr,loadVar,ht.isAgg,hr w hw]) hd k
def WX.load{x:Operand}{t b i T:Nat}{cs:List Value}{fr:Nat×Nat}{K:Obj->HH}(hx:ev L x=some (.pointer (some ⟨b,i,none⟩)))[ht:TL P t 1 false][hf:Tm b (.cells (List.toArray cs) T fr) H K]
  (hc:cs[i]? =some v)(hd:Nat.blt d n=true)(k:WX q g P ops Q n rest ((d,v)::L) H):WX q g P ops Q n (⟨some d,.load t x,ty,pos,af,none⟩::rest) L H:=
 WX.BX hx (λw hw=>by rw[yg (hf.heap hw),hc]) hd k
def WX.XT{x:Operand}{t m b i:Nat}{vs:List Value}(hx:ev L x=some (.pointer (some ⟨b,i,none⟩)))[ht:TL P t m true](hr:∀w,on g H.flatten w->∀j v,vs[j]? =some v->w.cell? ⟨b,i+j,none⟩=some v)
  (hl:vs.length=m)(hd:Nat.blt d n=true)(k:WX q g P ops Q n rest ((d,.agg vs.toArray)::L) H):WX q g P ops Q n (⟨some d,.load t x,ty,pos,af,none⟩::rest) L H:=
 WX.val (λa ha w hw=>by
  subst hl;have:=run_loadCells_list (P:=P) w ⟨b,i,none⟩ vs (λj v e=>by rw[Xc];exact hr w hw j v e);simp[execOp,ha.ev hx,Instr.loadAt,Instr.sureAddr,loadVar,ht.isAgg,ht.sizeOf,this]) hd k
def WX.Ea{x:Operand}{t m b i T:Nat}{cs vs:List Value}{fr:Nat×Nat}{K:Obj->HH}(hx:ev L x=some (.pointer (some ⟨b,i,none⟩)))[ht:TL P t m true][hf:Tm b (.cells (List.toArray cs) T fr) H K]
  (hc:(cs.drop i).take m=vs)(hl:vs.length=m)(hd:Nat.blt d n=true)(k:WX q g P ops Q n rest ((d,.agg vs.toArray)::L) H):WX q g P ops Q n (⟨some d,.load t x,ty,pos,af,none⟩::rest) L H:=
 WX.XT hx (λw hw j v e=>by
  rw[yg (hf.heap hw),<-e,<-hc];have:j<m:=by rw[<-hl];exact(List.getElem?_eq_some_iff.1 e).1
  rw[List.getElem?_take,if_pos this,List.getElem?_drop]) hl hd k
def bn{x:Operand}{t m T:Nat}(b i:Nat)(cs vs:List Value){fr:Nat×Nat}{K:Obj->HH}[ht:TL P t m true][hf:Tm b (.cells (List.toArray cs) T fr) H K](k:WX q g P ops Q n rest ((d,.agg vs.toArray)::L) H)(hx:ev L x=some (.pointer (some ⟨b,i,none⟩)):=by exact rfl)(hc:(cs.drop i).take m=vs:=by exact rfl)(hl:vs.length=m:=by exact rfl)(hd:Nat.blt d n=true:=by exact rfl):
 WX q g P ops Q n (⟨some d,.load t x,ty,pos,af,none⟩::rest) L H:=WX.Ea hx hc hl hd k
def Pd(vs:List Value):Bool:=vs.all (·.oneCell')
def Nu{w:World}{b i T:Nat}{cs:List Value}{fr:Nat×Nat}{v:Value}(h:w.heap[b]? =some (.cells cs.toArray T fr)):(w.setCell ⟨b,i,none⟩ v).heap[b]? =some (.cells (cs.set i v).toArray T fr):=by
 simp only[World.setCell,Array.getElem?_modify,if_true,h];simp
def yx{w:World}{p:Addr}{v:Value}:Ht w (w.setCell p v):=⟨rfl,rfl,rfl,by simp[World.setCell]⟩
def vq{b T:Nat}:∀(vs:List Value) (i k:Nat) (cs:List Value) (w:World),w.heap[b]? =some (.cells cs.toArray T (0,0))->i+k+vs.length<=cs.length->Pd vs=true->
  ∃w',(storeCells ⟨b,i,none⟩ vs k).run P w= .ok () w'/\Ht w w'/\w'.heap[b]? =some (.cells (setAt cs (i+k) vs).toArray T (0,0))/\∀j,j≠b->w'.heap[j]? =w.heap[j]?
 |[],i,k,cs,w,h,_,_=>⟨w,by simp[storeCells],Ht.refl w,by simpa[setAt] using h,λ_ _=>rfl⟩
 |v::vs,i,k,cs,w,h,hl,h1=>by
  simp only[Pd,all_cons,Bool.and_eq_true] at h1;simp only[Ib] at hl;have h2:=Nu (i:=i+k) (v:=v) h;obtain⟨w',e1,e2,e3,e4⟩:=vq vs i (k+1) (cs.set (i+k) v) (w.setCell ⟨b,i+k,none⟩ v) h2 (by simp;omega) h1.2;refine⟨w',?_,yx.trans e2,?_,λj hj=>(e4 j hj).trans ?_⟩
  .have hlt:i+k<cs.length:=by omega
   have hr:(store (Addr.add ⟨b,i,none⟩ k) v).run P w= .ok () (w.setCell ⟨b,i+k,none⟩ v):=by
    rw[run_store P w _ v .plain h1.1,Xc,yg h,Wg hlt,YP h];simp
   simp only[storeCells,Sem.run_bind,hr,Result.andThen_ok,e1]
  .simpa[setAt,Nat.add_assoc] using e3
  .exact RowKit.Below.heap_setCell _ _ _ _ hj
def WX.qd{x y:Operand}{t m b i T:Nat}{ag:Bool}{cs vs:List Value}{K:Obj->HH}(hx:ev L x=some (.pointer (some ⟨b,i,none⟩)))(hy:ev L y=some v)(hv:v.cells=vs.toArray)[ht:TL P t m ag]
  [hf:Tm b (.cells (List.toArray cs) T (0,0)) H K](hl:vs.length=m)(h1:Pd vs=true)(hb:Nat.ble (i+vs.length) cs.length=true)(k:WX false g P ops Q n rest L (K (.cells (List.toArray (setAt cs i vs)) T (0,0)))):
  WX false g P ops Q n (⟨none,.store t x y,ty,pos,af,none⟩::rest) L H:=
 WX.yZ (λa w ha hw=>by
  obtain⟨w',e1,e2,e3,e4⟩:=vq (P:=P) vs i 0 cs w (hf.heap hw) (by have:=Nat.le_of_ble_eq_true hb;omega) h1;refine⟨w',_,?_,hf.set hw e2 e3 e4,k⟩;simp[execOp,ha.ev hx,ha.ev hy,Instr.storeAt,Instr.sureAddr,storeVar,ht.sizeOf,hv,hl,e1])
def WX.store{x y:Operand}{t b i T:Nat}{cs:List Value}{K:Obj->HH}(hx:ev L x=some (.pointer (some ⟨b,i,none⟩)))(hy:ev L y=some v)(h1:v.oneCell'=true)[ht:TL P t 1 false]
  [hf:Tm b (.cells (List.toArray cs) T (0,0)) H K](hb:Nat.blt i cs.length=true)(k:WX false g P ops Q n rest L (K (.cells (List.toArray (cs.set i v)) T (0,0)))):
  WX false g P ops Q n (⟨none,.store t x y,ty,pos,af,none⟩::rest) L H:=
 WX.qd (vs:=[v]) hx hy (by cases v<;>first|rfl|cases h1) rfl (by simp[Pd,h1]) (by have:=Nat.le_of_ble_eq_true hb;exact Nat.ble_eq_true_of_le this) k
-- new blocks
def WX.K4{t:Nat}{vs:List Value}(hr:∀a,Fr n L a->∀w,on g H.flatten w->(execOp a.eval ⟨some d,op,ty,pos,af,none⟩).run P w= .ok (.value (.pointer (some ⟨w.heap.size,0,none⟩))) (w.alloc (.cells vs.toArray t (0,0))))
  (hd:Nat.blt d n=true)(k:∀b,WX false g P ops Q n rest ((d,.pointer (some ⟨b,0,none⟩))::L) ([(b,.cells (List.toArray vs) t (0,0))]::H)):WX false g P ops Q n (⟨some d,op,ty,pos,af,none⟩::rest) L H:=
 WX.xZ hd (λa w ha hw=>⟨_,_,_,hr a ha w hw,by simpa using hw.alloc _,k _⟩)
def WX.box{x:Operand}{t:Nat}{vs:List Value}(hx:ev L x=some v)(hv:v.cells=vs.toArray)(hd:Nat.blt d n=true)
  (k:∀b,WX false g P ops Q n rest ((d,.pointer (some ⟨b,0,none⟩))::L) ([(b,.cells (List.toArray vs) t (0,0))]::H)):WX false g P ops Q n (⟨some d,.box t x,ty,pos,af,none⟩::rest) L H:=
 WX.K4 (λa ha w hw=>by simp[execOp,ha.ev hx,Instr.box,newVar,newRow,hv]) hd k
def WX.alloc{t:Nat}{vs:List Value}[hz:TZ P t vs](hd:Nat.blt d n=true)
  (k:∀b,WX false g P ops Q n rest ((d,.pointer (some ⟨b,0,none⟩))::L) ([(b,.cells (List.toArray vs) t (0,0))]::H)):WX false g P ops Q n (⟨some d,.alloc t,ty,pos,af,none⟩::rest) L H:=
 WX.K4 (λa ha w hw=>by
  obtain⟨z,h1,h2⟩:=hz.run (w:=w);simp[execOp,Instr.alloc,newVar,newRow,h1,h2]) hd k
def lG(pl:List (Nat×Nat)):List Value->List (Nat×Value)->Option (List Value)
 |cs,[]=>some cs
 |cs,(i,v)::r=>match pl[i]? with
  |none=>none
  |some (off,size)=>match Nat.beq v.cells.toList.length size && Nat.ble (off+size) cs.length with
   |true=>lG pl (setAt cs off v.cells.toList) r
   |false=>none
def Ou(off:Nat):∀(vs:List Value) (j:Nat) (cells:Array Value),(vs.zipIdx j).foldl (λ(cs:Array Value) (x:Value×Nat)=>cs.setIfInBounds (off+x.2) x.1) cells=(setAt cells.toList (off+j) vs).toArray
 |[],j,cells=>by simp[setAt]
 |v::vs,j,cells=>by
  simp only[zipIdx_cons,foldl_cons];rw[Ou off vs (j+1)];simp[setAt,Nat.add_assoc]
def Mr(pl:List (Nat×Nat)):∀(ps:List (Nat×Value)) (cs ds:List Value),lG pl cs ps=some ds->Instr.fill (λi=>pl[i]?) cs.toArray ps=some ds.toArray
 |[],cs,ds,h=>by cases h;rfl
 |(i,v)::r,cs,ds,h=>by
  simp only[lG] at h;simp only[Instr.fill];split at h
  .cases h
  .rename_i off size hp;rw[hp];split at h
   .rename_i hb;simp only[Bool.and_eq_true] at hb;have h1:=Nat.eq_of_beq_eq_true hb.1;have h2:=Nat.le_of_ble_eq_true hb.2;simp only[Array.length_toList] at h1;simp only[size_toArray];rw[if_neg (by rw[h1];simp;omega)]
    have e:v.cells.zipIdx.foldl (λ(cs:Array Value) (x:Value×Nat)=>cs.setIfInBounds (off+x.2) x.1) cs.toArray=(setAt cs off v.cells.toList).toArray:=by
     rw[<-Array.foldl_toList,Array.toList_zipIdx,Ou];rfl
    rw[e];exact Mr pl r _ ds h
   .cases h
def WX.build{t:Nat}{parts:List (Nat×Operand)}{zs cs:List Value}{pl:List (Nat×Nat)}{vs:List Value}[hz:TZ P t zs][hp:TP P t pl](hx:My L (parts.map (·.2))=some vs)
  (hf':lG pl zs ((parts.map (·.1)).zip vs)=some cs)(hd:Nat.blt d n=true)
  (k:WX q g P ops Q n rest ((d,.agg cs.toArray)::L) H):WX q g P ops Q n (⟨some d,.build t parts.toArray,ty,pos,af,none⟩::rest) L H:=
 have hf:=Mr pl _ _ _ hf'
 WX.val (λa ha w hw=>by
  obtain⟨z,h1,h2⟩:=hz.run (w:=w);obtain⟨fs,h3,h4⟩:=hp.h;have e:=ha.My hx
  have e2:parts.map (λx=>(x.1,a.eval x.2))=(parts.map (·.1)).zip vs:=by
   rw[<-e,map_map,zip_map',Function.comp_def]
  obtain⟨i,z',g1,g2,g3⟩:=hz.h
  have hb:P.built t ((parts.map (·.1)).zip vs)=some cs.toArray:=by
   simp only[Program.built,g1,g2,h3];rw[h4];simp only[];rw[g3,show(λx=>pl.toArray[x]?)=λi=>pl[i]? from funext λi=>by simp];exact hf
  have:=run_build (P:=P) w t (parts.toArray.map λx=>(x.1,a.eval x.2)) cs.toArray (by simpa[e2] using hb);simp only[execOp,Sem.run_bind];rw[this];rfl) hd k
-- calls
def Wo{f:FuncId}(h:Enters P f)(vs:Array Value)(w:World):(callFunc f vs).run P w= .ok (.enter f vs) w:=by
 obtain⟨fn,h1,h2,h3⟩:=h.e;simp only[callFunc,Sem.run_bind,run_program,Result.andThen_ok,h1,h2,h3,Bool.false_eq_true,if_false];rfl
def Fw{f:FuncId}{args:List Operand}{ts:Array TypeId}{a:Act}{vs:List Value}{w:World}{dst:Option Nat}(hn:Enters P f)(hx:args.map a.eval=vs):
  (execOp a.eval ⟨dst,.call ⟨.value (.func f),args.toArray,ts⟩,ty,pos,af,none⟩).run P w= .ok (.enter f vs.toArray) w:=by
 have e:args.toArray.map a.eval=vs.toArray:=by rw[<-hx];simp
 have e0:a.eval (.func f)= .func (.func f) #[] #[]:=rfl;simp only[execOp,resolve,e,e0];simp[Deferred.ofValue,invoke,Wo hn]
def WX.call{f:FuncId}{args:List Operand}{ts:Array TypeId}{vs:List Value}{pre Hr:HH}{post:Value->HH->Prop}(hx:My L args=some vs)[hn:Enters P f](hc:Ct P f vs pre post)[pk:Oc pre H Hr]
  (hd:Nat.blt d n=true)(k:∀v H',post v H'->WX false g P ops Q n rest ((d,v)::L) (H'++Hr)):WX false g P ops Q n (⟨some d,.call ⟨.value (.func f),args.toArray,ts⟩,ty,pos,af,none⟩::rest) L H:=by
 refine .mk λa w ha hw=>?_;have hd':d<n:=Nat.le_of_ble_eq_true hd;refine wpList_plain rfl λK hK=>?_;unfold Oper.wp;rw[Fw hn (ha.My hx)];refine(hc.calls g Hr.flatten w (hw.perm (by simpa using pk.p))).mono λe w' ⟨v,H',he,hp,ho⟩=>?_;subst he;exact hK _ _ (k v H' hp _ _ (ha.put hd' v) (by simpa using ho))
def WX.oa{f:FuncId}{args:List Operand}{ts:Array TypeId}{vs:List Value}{pre Hr:HH}(hx:My L args=some vs)[hn:Enters P f](hc:Ct P f vs pre (λr H'=>r=v/\H'=pre))[pk:Oc pre H Hr]
  (hd:Nat.blt d n=true)(k:WX q g P ops Q n rest ((d,v)::L) H):WX q g P ops Q n (⟨some d,.call ⟨.value (.func f),args.toArray,ts⟩,ty,pos,af,none⟩::rest) L H:=by
 have key:∀w,on g H.flatten w->Calls P f vs.toArray w (λe w'=>e= .returned v/\on g H.flatten w'):=λw hw=>
  (hc.calls g Hr.flatten w (hw.perm (by simpa using pk.p))).mono λe w' ⟨u,H',he,⟨h1,h2⟩,ho⟩=>by
   subst h1;subst h2;exact⟨he,ho.perm (by simpa using pk.p.symm)⟩
 refine .mk λa w ha hw=>?_;have hd':d<n:=Nat.le_of_ble_eq_true hd;have hk:=λw' Oi=>k (a.put (some d) v) w' (ha.put hd' v) Oi;cases q
 .refine wpList_plain rfl λK hK=>?_;unfold Oper.wp;rw[Fw hn (ha.My hx)];refine(key w hw).mono λe w' ⟨he,ho⟩=>?_;subst he;exact hK _ _ (hk w' ho)
 .refine wpQuiet_step λK hK=>?_;simp only[Region.wanted,if_true];refine⟨v,λw' Oi=>?_,hK _ (hk w hw)⟩;unfold Oper.quietAt;rw[Fw hn (ha.My hx)];exact⟨rfl,key w' Oi⟩
-- results
def D.K9{fn:Func}{R:Ending->World->Prop}(hr:fn.results= #[])(h:∀w,on g H.flatten w->R (.returned (.tuple #[])) w):D g (bodyPost P fn R) .ret n L H:=
 .mk λa w ha hw=>⟨ha.defers,_,results_none hr _ _ _,h w hw⟩
def D.L9{fn:Func}{R:Ending->World->Prop}(hr:fn.results= #[])(h:∀w,on g H.flatten w->R (.returned (.tuple #[])) w):D g (bodyPost P fn R) .normal n L H:=
 .mk λa w ha hw=>⟨ha.defers,_,results_none hr _ _ _,h w hw⟩
def Fr.getD{a:Act}{t:Nat}{v:Value}(ha:Fr n L a)(h:lk L t=some v):a.tmps.getD t undef=v:=by
 simp[Array.getD_eq_getD_getElem?,ha.get _ _ h]
def D.M9{fn:Func}{R:Ending->World->Prop}{t:Nat}(hr:fn.results= #[.tmp t])(hl:lk L t=some v)(h:∀w,on g H.flatten w->R (.returned v) w):D g (bodyPost P fn R) .ret n L H:=
 .mk λa w ha hw=>⟨ha.defers,_,results_tmp hr _ _ _,by rw[ha.getD hl];exact h w hw⟩
def D.N9{fn:Func}{R:Ending->World->Prop}{t u:Nat}{v':Value}(hr:fn.results= #[.tmp t,.tmp u])(hl:lk L t=some v)(hl':lk L u=some v')(h:∀w,on g H.flatten w->R (.returned (.tuple #[v,v'])) w):
  D g (bodyPost P fn R) .ret n L H:=
 .mk λa w ha hw=>⟨ha.defers,_,results_tmp2 hr _ _ _,by rw[ha.getD hl,ha.getD hl'];exact h w hw⟩
def D.ri{fn:Func}{post:Value->HH->Prop}{R:Hp}(H' r:HH)(hr:fn.results= #[])(hp:post (.tuple #[]) H')[k:Oc (H'++[R]) H r]:D g (bodyPost P fn (Lr g post R)) .ret n L H:=
 D.K9 hr λw hw=>⟨_,H',rfl,hp,(Ia.qa k).on hw⟩
def D.fc{fn:Func}{post:Value->HH->Prop}{R:Hp}(H' r:HH)(hr:fn.results= #[])(hp:post (.tuple #[]) H')[k:Oc (H'++[R]) H r]:D g (bodyPost P fn (Lr g post R)) .normal n L H:=
 D.L9 hr λw hw=>⟨_,H',rfl,hp,(Ia.qa k).on hw⟩
def D.Ma{fn:Func}{post:Value->HH->Prop}{R:Hp}{t:Nat}(H' r:HH)(hr:fn.results= #[.tmp t])(hl:lk L t=some v)(hp:post v H')[k:Oc (H'++[R]) H r]:D g (bodyPost P fn (Lr g post R)) .ret n L H:=
 D.M9 hr hl λw hw=>⟨_,H',rfl,hp,(Ia.qa k).on hw⟩
def D.Vb{fn:Func}{post:Value->HH->Prop}{R:Hp}{t u:Nat}{v':Value}(H' r:HH)(hr:fn.results= #[.tmp t,.tmp u])(hl:lk L t=some v)(hl':lk L u=some v')(hp:post (.tuple #[v,v']) H')[k:Oc (H'++[R]) H r]:
  D g (bodyPost P fn (Lr g post R)) .ret n L H:=
 D.N9 hr hl hl' λw hw=>⟨_,H',rfl,hp,(Ia.qa k).on hw⟩
end
theorem TF.oo{f:Nat}(ft k:Nat)(h:fieldInfo P t f=some (off,ft,k+1):=by kernel_rfl):TF P t f off:=TF.of h
theorem Ae.oo{f ft:Nat}(k:Nat)(h:fieldInfo P t f=some (off,ft,k):=by kernel_rfl):Ae P t f off ft:=Ae.of h
theorem TP.oo{pl:List (Nat×Nat)}(h:placesOf P t=some pl:=by kernel_rfl):TP P t pl:=TP.of h
theorem TZ.oo{zs:List Value}(h:((P.info? t).bind λi=>i.zero.map λz=>z.cells.toList)=some zs:=by kernel_rfl):TZ P t zs:=TZ.of h
class Qb(α:Type) where
 sz:Nat
 enc:α->List Value
 len:∀x,(enc x).length=sz
 one:∀x,Pd (enc x)=true
 pos:0<sz
instance:Qb Int:=⟨1,λn=>[.int .i64 n],λ_=>rfl,λ_=>rfl,by decide⟩
instance:Qb UInt8:=⟨1,λn=>[.int .u8 n.toNat],λ_=>rfl,λ_=>rfl,by decide⟩
instance:Qb Bool:=⟨1,λb=>[.bool b],λ_=>rfl,λ_=>rfl,by decide⟩
def Pu(fr:Nat×Nat)(n:Nat):Prop:=fr.1=fr.2\/n<=fr.1
def Pu.zero(n:Nat):Pu (0,0) n:= .inl rfl
section
variable{α:Type}[E:Qb α]
def Jb(xs:List α):List Value:=xs.flatMap Qb.enc
def Ic(xs:List α):(Jb xs).length=xs.length*Qb.sz α:=by
 unfold Jb
 induction xs with
 |nil=>simp
 |cons x r ih=>simp[ih,Qb.len,Nat.succ_mul,Nat.add_comm]
def Hg(xs ys:List α):Jb (xs++ys)=Jb xs++Jb ys:=by simp[Jb]
def tK(xs:List α):Pd (Jb xs)=true:=by
 unfold Jb Pd
 induction xs with
 |nil=>rfl
 |cons x r ih=>simp only[flatMap_cons,all_append,ih,Bool.and_true];exact Qb.one x
def Xs{xs:List α}{k:Nat}{y:α}(hk:xs[k]? =some y):Jb xs=Jb (xs.take k)++Qb.enc y++Jb (xs.drop (k+1)):=by
 have hlt:=(List.getElem?_eq_some_iff.1 hk).1;have hy:=(List.getElem?_eq_some_iff.1 hk).2
 have h1:xs=xs.take k++(y::xs.drop (k+1)):=by
  rw[<-hy,<-drop_eq_getElem_cons hlt,take_append_drop]
 conv=>lhs;rw[h1]
 simp[Jb,Sc]
def bA{xs:List α}{k off:Nat}{y:α}(hk:xs[k]? =some y)(ho:off<Qb.sz α)(sp:List Value):(Jb xs++sp)[k*Qb.sz α+off]? =(Qb.enc y)[off]? :=by
 have hlt:=(List.getElem?_eq_some_iff.1 hk).1;have hl:(Jb (xs.take k)).length=k*Qb.sz α:=by rw[Ic,Oe,Nat.min_eq_left (by omega)]
 rw[Xs hk,Sc,Sc,List.getElem?_append_right (by omega),hl,Nat.add_sub_cancel_left,List.getElem?_append_left (by rw[Qb.len];exact ho)]
def ia(T:Nat)(xs:List α)(v:Value)(h:Hp):Prop:=
 (v= .slice none 0 0/\xs=[]/\h=[])\/
 ∃b cap sp fr,v= .slice (some ⟨b,0,none⟩) xs.length cap/\h=[(b,.cells (List.toArray (Jb xs++sp)) T fr)]/\xs.length<=cap/\sp.length=(cap - xs.length)*Qb.sz α/\Pu fr (cap*Qb.sz α)
def ia.nil(T:Nat):ia T ([]:List α) (.slice none 0 0) []:= .inl ⟨rfl,rfl,rfl⟩
def ia.len{T:Nat}{xs:List α}{v:Value}{h:Hp}(hs:ia T xs v h):∃p c,v= .slice p xs.length c:=by
 rcases hs with⟨rfl,rfl,_⟩|⟨b,cap,sp,fr,rfl,_⟩
 .exact⟨_,_,rfl⟩
 .exact⟨_,_,rfl⟩
def ia.ne{T:Nat}{xs:List α}{v:Value}{h:Hp}(hs:ia T xs v h)(hne:0<xs.length):
  ∃b cap sp fr,v= .slice (some ⟨b,0,none⟩) xs.length cap/\h=[(b,.cells (List.toArray (Jb xs++sp)) T fr)]/\xs.length<=cap/\sp.length=(cap - xs.length)*Qb.sz α/\Pu fr (cap*Qb.sz α):=by
 rcases hs with⟨rfl,rfl,_⟩|h
 .simp at hne
 .exact h
def ia.take{T:Nat}{xs:List α}{v:Value}{h:Hp}(hs:ia T xs v h)(n:Nat)(hn:n<=xs.length):
  ∃p l c,v= .slice p l c/\ia T (xs.take n) (.slice p n c) h:=by
 rcases hs with⟨rfl,rfl,rfl⟩|⟨b,cap,sp,fr,rfl,rfl,h1,h2,h3⟩
 .obtain rfl:n=0:=by simpa using hn
  exact⟨_,_,_,rfl,.inl ⟨rfl,by simp,rfl⟩⟩
 .refine⟨_,_,_,rfl,.inr ⟨b,cap,Jb (xs.drop n)++sp,fr,by rw[Oe,Nat.min_eq_left hn],?_,?_,?_,h3⟩⟩
  .rw[<-Sc,<-Hg,take_append_drop]
  .rw[Oe];omega
  .rw[Eb,Ic,h2,length_drop,Oe,Nat.min_eq_left hn,<-Nat.add_mul];congr 1;omega
def ia.YT(T b:Nat)(xs:List α):ia T xs (.slice (some ⟨b,0,none⟩) xs.length xs.length) [(b,.cells (List.toArray (Jb xs)) T (0,0))]:=
 .inr ⟨b,xs.length,[],(0,0),rfl,by simp,Nat.le_refl _,by simp,Pu.zero _⟩
def Wn(v:Value)(k m off:Nat):Value:=match v with
 | .slice (some a) _ _=> .pointer (some (a.add (k*m+off)))
 |_=>undef
def ZP(b l c k m off:Nat):Wn (.slice (some ⟨b,0,none⟩) l c) k m off= .pointer (some ⟨b,k*m+off,none⟩):=by
 simp[Wn,Xc]
def MH(b o l c k m off:Nat):Wn (.slice (some ⟨b,o,none⟩) l c) k m off= .pointer (some ⟨b,o+(k*m+off),none⟩):=by
 simp[Wn,Xc]
def Rs(xs:List α)(v:Value)(h:Hp):Prop:=
 ∃a c,v= .slice a xs.length c/\xs.length<=c/\∀k y,xs[k]? =some y->∃b off,a=some ⟨b,off,none⟩/\∀j u,(Qb.enc y)[j]? =some u->∀g w,on g h w->w.cell? ⟨b,off+(k*Qb.sz α+j),none⟩=some u
def ia.rs{T:Nat}{xs:List α}{v:Value}{h:Hp}(hs:ia T xs v h):Rs xs v h:=by
 rcases hs with⟨rfl,rfl,rfl⟩|⟨b,cap,sp,fr,rfl,rfl,h1,h2,h3⟩
 .exact⟨_,_,rfl,Nat.le_refl _,λk y hk=>by simp at hk⟩
 .refine⟨_,_,rfl,h1,λk y hk=>⟨b,0,rfl,λj u hu g w ho=>?_⟩⟩;have hj:j<Qb.sz α:=by have:=(List.getElem?_eq_some_iff.1 hu).1;rwa [Qb.len] at this
  rw[Nat.zero_add,yg (ho.2.2 b _ (qf)),bA hk hj,hu]
def Rs.mono{xs:List α}{v:Value}{h h':Hp}(hs:Rs xs v h)(k:∀g w,on g h' w->on g h w):Rs xs v h':=by
 obtain⟨a,c,e,le,f⟩:=hs;refine⟨a,c,e,le,λi y hi=>?_⟩;obtain⟨b,off,e1,e2⟩:=f i y hi;exact⟨b,off,e1,λj u hu g w ho=>e2 j u hu g w (k g w ho)⟩
def Rs.len{xs:List α}{v:Value}{h:Hp}(hs:Rs xs v h):∃p c,v= .slice p xs.length c:=by
 obtain⟨a,c,e,_⟩:=hs;exact⟨a,c,e⟩
def Ao(v:Value)(m:Nat):Value:=match v with
 | .slice p _ c=> .slice p m c
 |_=>v
def Rs.take{xs:List α}{v:Value}{h:Hp}(hs:Rs xs v h){m:Nat}(hm:m<=xs.length):Rs (xs.take m) (Ao v m) h:=by
 obtain⟨a,c,rfl,le,f⟩:=hs;refine⟨a,c,by simp[Ao,Nat.min_eq_left hm],by rw[Oe];omega,λk y hk=>?_⟩;have hlt:=(List.getElem?_eq_some_iff.1 hk).1;rw[Oe] at hlt;exact f k y (by rwa [List.getElem?_take,if_pos (by omega)] at hk)
def ia.to{T:Nat}{xs:List α}{v:Value}{h:Hp}(hs:ia T xs v h){m:Nat}(hm:m<=xs.length):ia T (xs.take m) (Ao v m) h:=by
 obtain⟨p,l,c,rfl,h2⟩:=hs.take m hm;exact h2
end
def uM(need cap:Nat)(h:cap<need):Builtin.nextslicecap need cap<=2*need+256:=by
 have key:∀r c,c<=2*need+256->Builtin.growBy need r c<=2*need+256:=by
  intro r
  induction r with
  |zero=>intro c hc;exact hc
  |succ r ih=>
   intro c hc;unfold Builtin.growBy;split
   .exact hc
   .exact ih _ (by omega)
 unfold Builtin.nextslicecap;split
 .omega
 .split
  .omega
  .exact key 4 cap (by omega)
class TB(P:Program)(t:Nat)(k:outParam Nat):Prop where
 s:(P.info? t).map (·.bytes)=some k:=by kernel_rfl
section
variable{g:World}{P:Program}{ops:Array Oper}{Q:Exit->Act->World->Prop}{n:Nat}{os rest:List Oper}{L L':Fm}{H H':HH}{q:Bool}
variable{d:Nat}{op:Op}{ty:TypeId}{pos:String}{af:Array Edge}{v:Value}
variable{α:Type}[E:Qb α]{xs:List α}{y:α}{T k:Nat}{h:Hp}
def Lu.Q0{x:Hp}{H:HH}{K:Hp->HH}{w:World}(s:Lu x H K)(h:on g H.flatten w):Sl.on g x w:=by
 obtain⟨l,r,e,_⟩:=s.p;rw[e,Sc] at h;exact h.right.left
def Lu.set{b T:Nat}{o o':Obj}{H:HH}{K:Hp->HH}{w w':World}(s:Lu [(b,o)] H K)(h:Sl.on g H.flatten w)(a:Ht w w')(e:w'.heap[b]? =some o')
  (f:∀k,k≠b->w'.heap[k]? =w.heap[k]?):Sl.on g (K [(b,o')]).flatten w':=by
 obtain⟨l,r,e1,e2⟩:=s.p;rw[e1] at h;rw[e2];have:Sl.on g (l++(b,o)::r) w:=by simpa using h
 simpa using this.set a e f
def WX.L4{x:Operand}{t e:Nat}(hx:ev L x=some v)(hs:Rs xs v h)(hd:Nat.blt d n=true)[ht:TU P t (.slice e)](kk:WX q g P ops Q n rest ((d,.int .i64 xs.length)::L) H):
  WX q g P ops Q n (⟨some d,.call ⟨.builtin .len, #[x], #[t]⟩,ty,pos,af,none⟩::rest) L H:=by
 obtain⟨p,c,rfl⟩:=hs.len;exact WX.len hx hd kk
def WX.idx{x i:Operand}{t e m:Nat}{ag:Bool}{kd:IntKind}(hx:ev L x=some v)(hi:ev L i=some (.int kd (k:Int)))(hs:Rs xs v h)(hk:xs[k]? =some y)[ht:TU P t (.slice e)][hl:TL P e m ag]
  (hd:Nat.blt d n=true)(kk:WX q g P ops Q n rest ((d,Wn v k m 0)::L) H):WX q g P ops Q n (⟨some d,.indexAddr t x i,ty,pos,af,none⟩::rest) L H:=by
 have hlt:=(List.getElem?_eq_some_iff.1 hk).1;obtain⟨a,c,rfl,_,f⟩:=hs;obtain⟨b,off,rfl,_⟩:=f k y hk;refine WX.val (λa ha w hw=>?_) hd kk;have h1:(k:Int)<(xs.length:Int):=by omega
 simp[execOp,ha.ev hx,ha.ev hi,Instr.indexAt,asIntOf,ht.run,hl.sizeOf,hlt,Wn,Xc]
def WX.HP{x i:Operand}{t e m:Nat}{j:Int}{ag:Bool}{kd:IntKind}(hx:ev L x=some v)(hi:ev L i=some (.int kd j))(hs:Rs xs v h)(h0:0<=j)(hk:xs[j.toNat]? =some y)[ht:TU P t (.slice e)][hl:TL P e m ag]
  (hd:Nat.blt d n=true)(kk:WX q g P ops Q n rest ((d,Wn v j.toNat m 0)::L) H):WX q g P ops Q n (⟨some d,.indexAddr t x i,ty,pos,af,none⟩::rest) L H:=by
 have e:((j.toNat:Nat):Int)=j:=Int.toNat_of_nonneg h0;exact WX.idx hx (by rw[hi,e]) hs hk hd kk
def WX.Ao{x i:Operand}{t e m k:Nat}{ag:Bool}{kd:IntKind}(hx:ev L x=some v)(hi:ev L i=some (.int kd (k:Int)))(hs:Rs xs v h)(hk:k<=xs.length)[ht:TU P t (.slice e)][hl:TL P e m ag]
  (hd:Nat.blt d n=true)(kk:WX q g P ops Q n rest ((d,Sl.Ao v k)::L) H):WX q g P ops Q n (⟨some d,.slice t x none (some i) none,ty,pos,af,none⟩::rest) L H:=by
 obtain⟨a,c,rfl,le,f⟩:=hs;refine WX.val (λa' ha w hw=>?_) hd kk;have h1:(k:Int)<=(c:Int):=by omega
 have h2:a.map (λx=>x.add 0)=a:=by cases a<;>simp[Addr.add]
 simp[execOp,ha.ev hx,ha.ev hi,Instr.sliceAt,Instr.slice,Instr.sliceBounds,Instr.sliceBound,asIntOf,ht.run,hl.sizeOf,h1,Sl.Ao,h2];intro hlt;omega
def WX.zZ{x:Operand}{t f m off off' k:Nat}(hx:ev L x=some (Wn v k m off))(hs:Rs xs v h)(hk:xs[k]? =some y)(hd:Nat.blt d n=true)[hf:TF P t f off'](kk:WX q g P ops Q n rest ((d,Wn v k m (off+off'))::L) H):
  WX q g P ops Q n (⟨some d,.fieldAddr t x f,ty,pos,af,none⟩::rest) L H:=by
 obtain⟨a,c,rfl,_,f⟩:=hs;obtain⟨b,o,rfl,_⟩:=f k y hk;rw[MH] at hx kk;exact WX.fieldAddr hx hd (by simpa[Nat.add_assoc] using kk)
def WX.M4{x:Operand}{t off ms:Nat}{u:Value}{K:Hp->HH}(hx:ev L x=some (Wn v k ms off))(hs:Rs xs v h)(hk:xs[k]? =some y)(vG:ms=Qb.sz α)[ht:TL P t 1 false][hw:Lu h H K](ho:(Qb.enc y)[off]? =some u)
  (hd:Nat.blt d n=true)(kk:WX q g P ops Q n rest ((d,u)::L) H):WX q g P ops Q n (⟨some d,.load t x,ty,pos,af,none⟩::rest) L H:=by
 subst vG;obtain⟨a,c,rfl,_,f⟩:=hs;obtain⟨b,o,rfl,f2⟩:=f k y hk;rw[MH] at hx;exact WX.BX hx (λw UL=>f2 off u ho g w (hw.Q0 UL)) hd kk
def WX.fo{x:Operand}{t off m ms:Nat}{us:List Value}{K:Hp->HH}(hx:ev L x=some (Wn v k ms off))(hs:Rs xs v h)(hk:xs[k]? =some y)(vG:ms=Qb.sz α)[ht:TL P t m true][hw:Lu h H K](ho:((Qb.enc y).drop off).take m=us)(hl:us.length=m)
  (hd:Nat.blt d n=true)(kk:WX q g P ops Q n rest ((d,.agg us.toArray)::L) H):WX q g P ops Q n (⟨some d,.load t x,ty,pos,af,none⟩::rest) L H:=by
 subst vG;obtain⟨a,c,rfl,_,f⟩:=hs;obtain⟨b,o,rfl,f2⟩:=f k y hk;rw[MH] at hx;refine WX.XT hx (λw UL j u hu=>?_) hl hd kk;have hj:j<m:=by rw[<-hl];exact(List.getElem?_eq_some_iff.1 hu).1
 have GW:(Qb.enc y)[off+j]? =some u:=by rw[<-hu,<-ho,List.getElem?_take,if_pos hj,List.getElem?_drop]
 have:=f2 (off+j) u GW g w (hw.Q0 UL);simpa[Nat.add_assoc] using this
def yc(l r:List Value):∀(vs:List Value) (i:Nat),i+vs.length<=l.length->setAt (l++r) i vs=setAt l i vs++r
 |[],i,_=>rfl
 |v::vs,i,hl=>by
  simp only[Ib] at hl;simp only[setAt];rw[set_append_left _ _ (by omega),yc _ r vs (i+1) (by simp;omega)]
def Yc(l r:List Value):∀(vs:List Value) (i:Nat),setAt (l++r) (l.length+i) vs=l++setAt r i vs
 |[],i=>rfl
 |v::vs,i=>by
  simp only[setAt];rw[set_append_right _ _ (by omega),Nat.add_sub_cancel_left,Nat.add_assoc,Yc l _ vs (i+1)]
def Jq:∀(vs:List Value) (l:List Value) (i:Nat),(setAt l i vs).length=l.length
 |[],l,i=>rfl
 |v::vs,l,i=>by simp only[setAt];rw[Jq vs];simp
def Vf:∀(vs r:List Value) (i:Nat) (l:List Value),l.length=i->r.length=vs.length->setAt (l++r) i vs=l++vs
 |[],r,i,l,_,h=>by have:r=[]:=length_eq_zero_iff.1 h;subst this;rfl
 |v::vs,[],i,l,_,h=>by simp at h
 |v::vs,x::r,i,l,h1,h2=>by
  simp only[setAt];rw[set_append_right _ _ (by omega)];simp only[show i - l.length=0 by omega,set_cons_zero];have:=Vf vs r (i+1) (l++[v]) (by simp;omega) (by simpa using h2);simpa using this
def zx{w:World}{b i T:Nat}{cs:List Value}{fr:Nat×Nat}(h:w.heap[b]? =some (.cells cs.toArray T fr))(hf:Pu fr cs.length)(hi:i<cs.length):w.frozen? ⟨b,i,none⟩=false:=by
 simp only[World.frozen?,h];obtain⟨lo,hi'⟩:=fr;rcases hf with hf|hf
 .simp only at hf;simp;omega
 .simp only at hf;simp;omega
def ug{b T:Nat}{fr:Nat×Nat}:∀(vs:List Value) (i k:Nat) (cs:List Value) (w:World),w.heap[b]? =some (.cells cs.toArray T fr)->Pu fr cs.length->i+k+vs.length<=cs.length->Pd vs=true->
  ∃w',(storeCells ⟨b,i,none⟩ vs k).run P w= .ok () w'/\Ht w w'/\w'.heap[b]? =some (.cells (setAt cs (i+k) vs).toArray T fr)/\∀j,j≠b->w'.heap[j]? =w.heap[j]?
 |[],i,k,cs,w,h,_,_,_=>⟨w,by simp[storeCells],Ht.refl w,by simpa[setAt] using h,λ_ _=>rfl⟩
 |v::vs,i,k,cs,w,h,hf,hl,h1=>by
  simp only[Pd,all_cons,Bool.and_eq_true] at h1;simp only[Ib] at hl;have h2:=Nu (i:=i+k) (v:=v) h;obtain⟨w',e1,e2,e3,e4⟩:=ug vs i (k+1) (cs.set (i+k) v) (w.setCell ⟨b,i+k,none⟩ v) h2 (by simpa using hf) (by simp;omega) h1.2;refine⟨w',?_,yx.trans e2,?_,λj hj=>(e4 j hj).trans ?_⟩
  .have hlt:i+k<cs.length:=by omega
   have hr:(store (Addr.add ⟨b,i,none⟩ k) v).run P w= .ok () (w.setCell ⟨b,i+k,none⟩ v):=by
    rw[run_store P w _ v .plain h1.1,Xc,yg h,Wg hlt,zx h hf hlt];simp
   simp only[storeCells,Sem.run_bind,hr,Result.andThen_ok,e1]
  .simpa[setAt,Nat.add_assoc] using e3
  .exact RowKit.Below.heap_setCell _ _ _ _ hj
def ia.set{b cap:Nat}{sp:List Value}{fr:Nat×Nat}{y':α}(hk:xs[k]? =some y)(h1:xs.length<=cap)(h2:sp.length=(cap - xs.length)*Qb.sz α)(h3:Pu fr (cap*Qb.sz α)){off:Nat}{vs:List Value}(hy:setAt (Qb.enc y) off vs=Qb.enc y')
  (hle:off+vs.length<=Qb.sz α):
  ia T (xs.set k y') (.slice (some ⟨b,0,none⟩) xs.length cap) [(b,.cells (List.toArray (setAt (Jb xs++sp) (k*Qb.sz α+off) vs)) T fr)]:=by
 have hlt:=(List.getElem?_eq_some_iff.1 hk).1;refine .inr ⟨b,cap,sp,fr,by simp,?_,by simpa using h1,by simpa using h2,h3⟩;congr 4;have hl:(Jb (xs.take k)).length=k*Qb.sz α:=by rw[Ic,Oe,Nat.min_eq_left (by omega)]
 have hk':(xs.set k y')[k]? =some y':=by simp[hlt]
 rw[Xs hk,Xs hk',<-hl,Sc,Sc,Yc,yc _ _ _ _ (by rw[Qb.len];exact hle),hy];simp[Sc,take_set_of_le,drop_set_of_lt]
def WX.zo{x z:Operand}{t m off ms:Nat}{ag:Bool}{y':α}{vs:List Value}{u:Value}{K:Hp->HH}(hx:ev L x=some (Wn v k ms off))(hz:ev L z=some u)(hv:u.cells=vs.toArray)(hs:ia T xs v h)(hk:xs[k]? =some y)(vG:ms=Qb.sz α)
  [ht:TL P t m ag][hw:Lu h H K](hl:vs.length=m)(h1:Pd vs=true)(hy:setAt (Qb.enc y) off vs=Qb.enc y')(hle':Nat.ble (off+vs.length) (Qb.sz α)=true)
  (kk:∀h',ia T (xs.set k y') v h'->WX false g P ops Q n rest L (K h')):WX false g P ops Q n (⟨none,.store t x z,ty,pos,af,none⟩::rest) L H:=by
 have hle:=Nat.le_of_ble_eq_true hle';subst vG;have hlt:=(List.getElem?_eq_some_iff.1 hk).1;obtain⟨b,cap,sp,fr,rfl,rfl,g1,g2,g3⟩:=hs.ne (by omega);rw[ZP] at hx;have hlen:(Jb xs++sp).length=cap*Qb.sz α:=by rw[Eb,Ic,g2,<-Nat.add_mul];congr 1;omega
 have hke:k*Qb.sz α+Qb.sz α<=cap*Qb.sz α:=by rw[<-Nat.succ_mul];exact Nat.mul_le_mul_right _ (by omega)
 refine WX.yZ (λa w ha ho=>?_);have hh:=(hw.Q0 ho).2.2 b _ (qf);obtain⟨w',e1,e2,e3,e4⟩:=ug (P:=P) vs (k*Qb.sz α+off) 0 _ w hh (by rw[hlen];exact g3) (by omega) h1;refine⟨w',_,?_,hw.set (T:=T) ho e2 e3 e4,kk _ (ia.set hk g1 g2 g3 hy hle)⟩;simp[execOp,ha.ev hx,ha.ev hz,Instr.storeAt,Instr.sureAddr,storeVar,ht.sizeOf,hv,hl,e1]
end
structure Src(P:Program)(sz:Nat)(v:Value)(n:Nat)(cells:List Value)(w:World):Prop where
 len:(Builtin.lenOf v).run P w= .ok n w
 cells:(Builtin.firstCells sz n v).run P w= .ok cells.toArray w
section
variable{α:Type}[E:Qb α]{P:Program}{g:World}
def ia.src{T:Nat}{xs:List α}{v:Value}{h:Hp}{w:World}(hs:ia T xs v h)(ho:∀b o,(b,o)∈h->w.heap[b]? =some o):Src P (Qb.sz α) v xs.length (Jb xs) w:=by
 rcases hs with⟨rfl,rfl,rfl⟩|⟨b,cap,sp,fr,rfl,rfl,h1,h2,h3⟩
 .exact⟨by simp[Builtin.lenOf],by simp[Builtin.firstCells,Jb]⟩
 .refine⟨by simp[Builtin.lenOf],?_⟩;have hh:=ho b _ (qf)
  have:=run_loadCells_list (P:=P) w ⟨b,0,none⟩ (Jb xs) (λj u hu=>by
   rw[Xc,Nat.zero_add,yg hh,List.getElem?_append_left (List.getElem?_eq_some_iff.1 hu).1,hu])
  rw[Ic] at this;simpa[Builtin.firstCells] using this
def NH{xs:List α}{j:Nat}(hj:j<xs.length*Qb.sz α):∃y,xs[j/Qb.sz α]? =some y/\(Jb xs)[j]? =(Qb.enc y)[j% Qb.sz α]? :=by
 have hp:=Qb.pos (α:=α);have hk:j/Qb.sz α<xs.length:=(Nat.div_lt_iff_lt_mul hp).2 hj;refine⟨xs[j/Qb.sz α],Wg hk,?_⟩;have:=bA (Wg hk) (Nat.mod_lt j hp) [];rw[append_nil] at this;rw[<-this];congr 1;rw[Nat.mul_comm];exact(Nat.div_add_mod j _).symm
def Rs.src{xs:List α}{v:Value}{h:Hp}{w:World}(hs:Rs xs v h){g:World}(ho:on g h w):Src P (Qb.sz α) v xs.length (Jb xs) w:=by
 obtain⟨a,c,rfl,le,f⟩:=hs;refine⟨by simp[Builtin.lenOf],?_⟩
 cases a with
 |none=>
  have hx:xs=[]:=by
   cases xs with
   |nil=>rfl
   |cons y r=>obtain⟨b,off,e,_⟩:=f 0 y rfl;cases e
  subst hx
  simp[Builtin.firstCells,Jb]
 |some a=>
  have:=run_loadCells_list (P:=P) w a (Jb xs) (λj u hu=>by
   have hj:=(List.getElem?_eq_some_iff.1 hu).1;rw[Ic] at hj;obtain⟨y,hy,he⟩:=NH hj;obtain⟨b,off,e,f2⟩:=f _ y hy;cases e;rw[Xc];have:=f2 _ u (by rw[<-he];exact hu) g w ho;rwa [show off+(j/Qb.sz α*Qb.sz α+j% Qb.sz α)=off+j by rw[Nat.mul_comm,Nat.div_add_mod]] at this)
  rw[Ic] at this;simpa[Builtin.firstCells] using this
def ZT{s:ByteArray}{w:World}:Src P 1 (.string s) s.size (Jb s.data.toList) w:=by
 refine⟨by simp[Builtin.lenOf],?_⟩;have e:(s.extract 0 s.size)=s:=by simp
 simp only[Builtin.firstCells,e,Sem.run_pure];congr 1;simp only[Jb,Qb.enc];apply Array.toList_inj.1;simp[flatMap_def,List.flatten,map_map]
 induction s.data.toList with
 |nil=>rfl
 |cons x r ih=>simp[ih]
def xq(zs:List Value)(m:Nat)(hm:zs.length=m)(hp:0<m):∀n,(List.range (n*m)).map (λi=>(zs.toArray)[i% m]!)=(List.replicate n zs).flatten
 |0=>by simp
 |n+1=>by
  rw[Nat.succ_mul,range_add,He,xq zs m hm hp n,replicate_succ',flatten_append];congr 1;rw[map_map];simp only[flatten_cons,flatten_nil,append_nil];apply ext_getElem
  .simp[hm]
  .intro i h1 h2;simp only[getElem_map,getElem_range,Function.comp];rw[Nat.mul_add_mod_of_lt (by omega)];simp[h2]
def aF(z:Array Value)(n:Nat):(Builtin.zeroCells z n).size=n*z.size:=by simp[Builtin.zeroCells]
def vM{T t t2 bytes m:Nat}{ag:Bool}{xs:List α}{v v2:Value}{h:Hp}{ys:List α}{ty:TypeId}{zs:List Value}{d2:TypeDesc}[ht:TU P t (.slice T)][ht2:TU P t2 d2](Jd:∀k,d2≠ .int k)
  [hl:TL P T m ag][hb:TB P T bytes][hz:TZ P T zs](hm:m=Qb.sz α)(hzl:zs.length=m)(XZ:0<bytes)(hs:ia T xs v h){w:World}(hw:∀b o,(b,o)∈h->w.heap[b]? =some o)
  (hsrc:∀w':World,w'.heap=w.heap->Src P (Qb.sz α) v2 ys.length (Jb ys) w')
  (hbd:(2*(xs.length+ys.length)+256)*bytes<=281474976710656):
  ∃v' w',(Builtin.append_ #[t,t2] ty #[v,v2]).run P w= .ok v' w'/\Ht w w'/\
   ((∃b o o',h=[(b,o)]/\w'.heap[b]? =some o'/\(∀k,k≠b->w'.heap[k]? =w.heap[k]?)/\ia T (xs++ys) v' [(b,o')])\/
    (h=[]/\w'.heap=w.heap/\ia T (xs++ys) v' [])\/
    (∃o,w'.heap=w.heap.push o/\ia T (xs++ys) v' [(w.heap.size,o)])):=by
 subst hm
 have hby:∃i,P.info? T=some i/\i.bytes=bytes:=by
  have:=hb.s
  cases hi:P.info? T with
  |none=>simp[hi] at this
  |some i=>exact⟨i,rfl,by simpa[hi] using this⟩
 obtain⟨inf,AZ,hbytes⟩:=hby;obtain⟨i',z,g1,g2,g3⟩:=hz.h;have hi':i'=inf:=Option.some.inj (g1.symm.trans AZ);subst hi';have hzero:∀w':World,(zeroValue T).run P w'= .ok z w':=λw'=>by simp[zeroValue,typeInfo,AZ,g2]
 have hzs:z.cells.size=Qb.sz α:=by rw[g3];simpa using hzl
 have hty:∀w':World,(typeInfo T).run P w'= .ok i' w':=λw'=>by simp[typeInfo,AZ]
 have hold:=λ(w':World) (e:w'.heap=w.heap)=>hs.src (P:=P) (w:=w') (λb o hm=>by rw[e];exact hw b o hm);have hints:(match(generalizing:=false) d2 with| .int _=>true|_=>false)=false:=by cases d2<;>first|rfl|exact absurd rfl (Jd _)
 obtain⟨base,cap,rfl,hroom⟩:∃base cap,v= .slice base xs.length cap/\((base=none/\xs=[]/\h=[]/\cap=0)\/∃b sp fr,base=some ⟨b,0,none⟩/\h=[(b,.cells (List.toArray (Jb xs++sp)) T fr)]/\xs.length<=cap/\sp.length=(cap - xs.length)*Qb.sz α/\Pu fr (cap*Qb.sz α)):=by
  rcases hs with⟨rfl,rfl,rfl⟩|⟨b,cap,sp,fr,rfl,rfl,h1,h2,h3⟩
  .exact⟨none,0,rfl,.inl ⟨rfl,rfl,rfl,rfl⟩⟩
  .exact⟨_,_,rfl,.inr ⟨b,sp,fr,rfl,rfl,h1,h2,h3⟩⟩
 by_cases hfit:xs.length+ys.length<=cap
 .rcases hroom with⟨rfl,rfl,rfl,rfl⟩|⟨b,sp,fr,rfl,rfl,h1,h2,h3⟩
  .have hy:ys=[]:=by
    cases ys with
    |nil=>rfl
    |cons _ _=>simp at hfit
   subst hy;have s1:=hsrc w rfl;have s2:=s1.len;have s3:=s1.cells;simp only[td] at s2 s3;refine⟨.slice none 0 0,w,?_,Ht.refl w,.inr (.inl ⟨rfl,rfl,.inl ⟨rfl,rfl,rfl⟩⟩)⟩;simp[Builtin.append_,ht.run,ht2.run,hl.sizeOf,hints,s2,s3]
  .have s1:=hsrc w rfl;have hh:=hw b _ (qf);have hlen:(Jb xs++sp).length=cap*Qb.sz α:=by rw[Eb,Ic,h2,<-Nat.add_mul];congr 1;omega
   have aU:xs.length*Qb.sz α+ys.length*Qb.sz α<=cap*Qb.sz α:=by rw[<-Nat.add_mul];exact Nat.mul_le_mul_right _ hfit
   obtain⟨w',e1,e2,e3,e4⟩:=ug (P:=P) (Jb ys) (xs.length*Qb.sz α) 0 _ w hh (by rw[hlen];exact h3) (by rw[hlen,Ic];simpa using aU) (tK ys);refine⟨.slice (some ⟨b,0,none⟩) (xs.length+ys.length) cap,w',?_,e2,.inl ⟨b,_,_,rfl,e3,e4,.inr ⟨b,cap,sp.drop (ys.length*Qb.sz α),fr,by simp,?_,by simpa using hfit,?_,h3⟩⟩⟩
   .simp[Builtin.append_,ht.run,ht2.run,hl.sizeOf,hints,s1.len,s1.cells,hfit,Xc,e1]
   .congr 4;rw[Nat.add_zero,<-Ic xs,show(Jb xs).length=(Jb xs).length+0 from rfl,Yc,Hg,Sc];congr 1;have hsp:sp=sp.take (ys.length*Qb.sz α)++sp.drop (ys.length*Qb.sz α):=(take_append_drop _ _).symm;have bU:ys.length*Qb.sz α<=sp.length:=by rw[h2];exact Nat.mul_le_mul_right _ (by omega)
    conv=>lhs;rw[hsp]
    rw[yc _ _ _ _ (by rw[Ic,Oe,Nat.min_eq_left bU];omega)];congr 1;have:=Vf (Jb ys) (sp.take (ys.length*Qb.sz α)) 0 [] rfl (by rw[Oe,Nat.min_eq_left bU,Ic]);simpa using this
   .rw[length_drop,h2,<-Nat.sub_mul,Eb];congr 1;omega
 .have hcap: ¬(xs.length+ys.length<=cap):=hfit;have hn:=uM (xs.length+ys.length) cap (by omega)
  have hbig: ¬(Builtin.nextslicecap (xs.length+ys.length) cap*bytes>281474976710656):=by
   have:=Nat.mul_le_mul_right bytes hn;omega
  have s1:=hsrc w rfl;have e1:=(hold w.drew rfl).cells;have e2:=(hsrc w.drew rfl).cells;have Jo:∃r,(Question.appendCap (xs.length+ys.length) cap T).cut (w.tape w.drawn (Question.appendCap (xs.length+ys.length) cap T))=xs.length+ys.length+r:=⟨_,rfl⟩;obtain⟨r,hr⟩:=Jo;refine⟨.slice (some ⟨w.heap.size,0,none⟩) (xs.length+ys.length) (xs.length+ys.length+r),World.alloc w.drew (.cells (List.toArray (Jb (xs++ys)++(Builtin.zeroCells z.cells r).toList)) T (0,0)),?_,?_,.inr (.inr ⟨.cells (List.toArray (Jb (xs++ys)++(Builtin.zeroCells z.cells r).toList)) T (0,0),rfl,.inr ⟨w.heap.size,xs.length+ys.length+r,(Builtin.zeroCells z.cells r).toList,(0,0),by simp,rfl,?_,?_,Pu.zero _⟩⟩)⟩
  .have hb0: ¬(i'.bytes=0):=by omega
   have N4: ¬(281474976710656<Builtin.nextslicecap (xs.length+ys.length) cap*i'.bytes):=by rw[hbytes];omega
   simp[Builtin.append_,ht.run,ht2.run,hl.sizeOf,hints,s1.len,hcap,hty,hzero,hb0,N4,Question.forced,hr,e1,e2,newRow,Hg];congr 2;apply Array.toList_inj.1;simp
  .exact⟨rfl,rfl,rfl,by simp⟩
  .simp
  .simp[aF,hzs]
end
section
variable{α:Type}[E:Qb α]{P:Program}{g:World}
def Ax(off:Nat):∀(vs:List Value) (j:Nat) (cells:Array Value),(vs.zipIdx j).foldl (λ(cs:Array Value) (x:Value×Nat)=>cs.setIfInBounds (off+x.2) x.1) cells=(setAt cells.toList (off+j) vs).toArray
 |[],j,cells=>by simp[setAt]
 |v::vs,j,cells=>by
  simp only[zipIdx_cons,foldl_cons];rw[Ax off vs (j+1)];simp[setAt,Nat.add_assoc]
def uK(m:Nat):∀(ys:List α) (vs:List Value) (k:Nat) (l r:List Value),m=Qb.sz α->l.length=k*m->r.length=ys.length*m->vs.map (·.cells.toList)=ys.map Qb.enc->
  Instr.fill (λi=>some (i*m,m)) (List.toArray (l++r)) ((List.range' k ys.length).zip vs)=some (List.toArray (l++Jb ys))
 |[],[],k,l,r,_,_,h2,_=>by
  have:r=[]:=length_eq_zero_iff.1 (by simpa using h2);subst this
  simp[Instr.fill,Jb]
 |[],_::_,_,_,_,_,_,_,h=>by simp at h
 |_::_,[],_,_,_,_,_,_,h=>by simp at h
 |y::ys,u::vs,k,l,r,hm,h1,h2,h3=>by
  simp only[map_cons,List.cons.injEq] at h3;simp only[Ib,Nat.succ_mul] at h2;have hu:u.cells.size=m:=by rw[<-Array.length_toList,h3.1,Qb.len,hm]
  have hc: ¬(u.cells.size≠m\/k*m+u.cells.size>(List.toArray (l++r)).size):=by simp;omega
  simp only[Ib,List.range'_succ,zip_cons_cons,Instr.fill];rw[if_neg (by simpa using hc)]
  have e:u.cells.zipIdx.foldl (λ(cs:Array Value) (x:Value×Nat)=>cs.setIfInBounds (k*m+x.2) x.1) (List.toArray (l++r))=List.toArray ((l++Qb.enc y)++r.drop m):=by
   rw[<-Array.foldl_toList,Array.toList_zipIdx,Ax,h3.1];simp only[Nat.add_zero];rw[<-h1,show l.length=l.length+0 from rfl,Yc];congr 1;rw[Sc];congr 1;have hr:r=r.take m++r.drop m:=(take_append_drop _ _).symm
   conv=>lhs;rw[hr]
   rw[yc _ _ _ _ (by rw[Qb.len,Oe];omega)];congr 1;have:=Vf (Qb.enc y) (r.take m) 0 [] rfl (by rw[Oe,Qb.len];omega);simpa using this
  rw[e];have ih:=uK m ys vs (k+1) (l++Qb.enc y) (r.drop m) hm (by simp[h1,Qb.len,Nat.succ_mul,hm]) (by simp;omega) h3.2;rw[ih];simp[Jb]
end
section
variable{g:World}{P:Program}{ops:Array Oper}{Q:Exit->Act->World->Prop}{n:Nat}{os rest:List Oper}{L L':Fm}{H H':HH}{q:Bool}
variable{d:Nat}{op:Op}{ty:TypeId}{pos:String}{af:Array Edge}{v v2:Value}
variable{α:Type}[E:Qb α]{xs ys:List α}{y:α}{T T2 k:Nat}{h h2:Hp}
def Lu.new{h:Hp}{H:HH}{K:Hp->HH}{w w':World}{o:Obj}(s:Lu h H K)(ho:on g H.flatten w)(a:Ht w w')(e:w'.heap=w.heap.push o):on g (K [(w.heap.size,o)]).flatten w':=by
 obtain⟨l,r,e1,e2⟩:=s.p;have h1:on g ((w.heap.size,o)::H.flatten) (w.alloc o):=ho.alloc o;have h2:on g ((w.heap.size,o)::H.flatten) w':=⟨ho.1.trans a,h1.2.1,λb o' hm=>by rw[e];exact h1.2.2 b o' hm⟩;rw[e1] at h2;rw[e2]
 have h3:on g ((w.heap.size,o)::(l++r)) w':=h2.sub (by
  refine List.Sublist.cons_cons _ ?_;rw[Sc];exact List.Sublist.append (List.Sublist.refl _) (sublist_append_right _ _))
 refine h3.perm ?_;rw[Sc];exact perm_middle.symm
def Lu.gone{h:Hp}{H:HH}{K:Hp->HH}{w w':World}(s:Lu h H K)(ho:on g H.flatten w)(a:Ht w w')(e:w'.heap=w.heap)(hh:h=[]):on g (K []).flatten w':=by
 obtain⟨l,r,e1,e2⟩:=s.p;subst hh;rw[e2,<-e1];exact ho.heap e a
def vK{x z:Operand}{t t2 m bytes:Nat}{ag:Bool}{zs:List Value}{d2:TypeDesc}{K:Hp->HH}(hx:ev L x=some v)(hz:ev L z=some v2)(hs:ia T xs v h)
  (hsrc:∀w,on g H.flatten w->∀w':World,w'.heap=w.heap->Src P (Qb.sz α) v2 ys.length (Jb ys) w')[hw:Lu h H K][ht:TU P t (.slice T)][ht2:TU P t2 d2](Jd:∀k,d2≠ .int k)
  [hl:TL P T m ag][hb:TB P T bytes][JX:TZ P T zs](hm:m=Qb.sz α)(hzl:zs.length=m)(XZ:0<bytes)(hbd:(2*(xs.length+ys.length)+256)*bytes<=281474976710656)(hd:Nat.blt d n=true)
  (kk:∀v' h',ia T (xs++ys) v' h'->WX false g P ops Q n rest ((d,v')::L) (K h')):
  WX false g P ops Q n (⟨some d,.call ⟨.builtin .append, #[x,z], #[t,t2]⟩,ty,pos,af,none⟩::rest) L H:=by
 refine WX.xZ hd λa w ha ho=>?_;obtain⟨v',w',hr,O4,hc⟩:=vM (ty:=ty) (t:=t) (t2:=t2) Jd hm hzl XZ hs (λb o hm=>(hw.Q0 ho).2.2 b o hm) (hsrc w ho) hbd
 have hrun:(execOp a.eval ⟨some d,.call ⟨.builtin .append, #[x,z], #[t,t2]⟩,ty,pos,af,none⟩).run P w= .ok (.value v') w':=
  Lm (args:=[x,z]) (vs:=[v,v2]) (by simp[ha.ev hx,ha.ev hz]) (by simp[builtin,hr])
 rcases hc with⟨b,o,o',rfl,h1,h2,h3⟩|⟨h1,h2,h3⟩|⟨o,h1,h2⟩
 .exact⟨v',w',_,hrun,hw.set (T:=T) ho O4 h1 h2,kk _ _ h3⟩
 .exact⟨v',w',_,hrun,hw.gone ho O4 h2 h1,kk _ _ h3⟩
 .exact⟨v',w',_,hrun,hw.new ho O4 h1,kk _ _ h2⟩
def WX.app{x z:Operand}{t t2 m bytes:Nat}{ag:Bool}{zs:List Value}{e2:Nat}{K K2:Hp->HH}(hx:ev L x=some v)(hz:ev L z=some v2)(hs:ia T xs v h)(Sa:Rs ys v2 h2)
  [hw:Lu h H K][Qr:Lu h2 H K2][ht:TU P t (.slice T)][ht2:TU P t2 (.slice e2)]
  [hl:TL P T m ag][hb:TB P T bytes][JX:TZ P T zs](hm:m=Qb.sz α)(hzl:zs.length=m)(XZ:0<bytes)(hbd:(2*(xs.length+ys.length)+256)*bytes<=281474976710656)(hd:Nat.blt d n=true)
  (kk:∀v' h',ia T (xs++ys) v' h'->WX false g P ops Q n rest ((d,v')::L) (K h')):
  WX false g P ops Q n (⟨some d,.call ⟨.builtin .append, #[x,z], #[t,t2]⟩,ty,pos,af,none⟩::rest) L H:=
 vK hx hz hs (λw ho w' e=>Sa.src (g:=w') (by
  have:=Qr.Q0 ho;exact⟨Ht.refl w',this.2.1,λb o hm=>by rw[e];exact this.2.2 b o hm⟩)) (by intro k hk;cases hk) hm hzl XZ hbd hd kk
def Jt{x z:Operand}{t t2 m bytes:Nat}{ag:Bool}{zs:List Value}{e2:Nat}{K K2:Hp->HH}(hs:ia T xs v h)(Sa:Rs ys v2 h2)[hw:Lu h H K][Qr:Lu h2 H K2][ht:TU P t (.slice T)][ht2:TU P t2 (.slice e2)][hl:TL P T m ag][hb:TB P T bytes][JX:TZ P T zs]
 (kk:∀v' h',ia T (xs++ys) v' h'->WX false g P ops Q n rest ((d,v')::L) (K h'))(hx:ev L x=some v:=by exact rfl)(hz:ev L z=some v2:=by exact rfl)(hm:m=Qb.sz α:=by exact rfl)(hzl:zs.length=m:=by exact rfl)(XZ:0<bytes:=by decide)(zb:(2*(xs.length+ys.length)+256)*bytes<=281474976710656:=by omega)(hd:Nat.blt d n=true:=by exact rfl):
 WX false g P ops Q n (⟨some d,.call ⟨.builtin .append, #[x,z], #[t,t2]⟩,ty,pos,af,none⟩::rest) L H:=WX.app hx hz hs Sa hm hzl XZ zb hd kk
def WX.MY{x z:Operand}{t t2 bytes:Nat}{ag:Bool}{zs:List Value}{K:Hp->HH}{xs:List UInt8}{s:ByteArray}(hx:ev L x=some v)(hz:ev L z=some (.string s))(hs:ia T xs v h)
  [hw:Lu h H K][ht:TU P t (.slice T)][ht2:TU P t2 .string]
  [hl:TL P T 1 ag][hb:TB P T bytes][JX:TZ P T zs](hzl:zs.length=1)(XZ:0<bytes)(hbd:(2*(xs.length+s.data.toList.length)+256)*bytes<=281474976710656)(hd:Nat.blt d n=true)
  (kk:∀v' h',ia T (xs++s.data.toList) v' h'->WX false g P ops Q n rest ((d,v')::L) (K h')):
  WX false g P ops Q n (⟨some d,.call ⟨.builtin .append, #[x,z], #[t,t2]⟩,ty,pos,af,none⟩::rest) L H:=
 vK hx hz hs (λw ho w' e=>ZT) (by intro k hk;cases hk) rfl hzl XZ hbd hd kk
def WX.lit{t m:Nat}{ag:Bool}{zs:List Value}{ys:List α}{vs:List Value}{parts:List (Nat×Operand)}{len:Nat}[ht:TU P t (.slice T)][hl:TL P T m ag][JX:TZ P T zs](hm:m=Qb.sz α)(hzl:zs.length=m)
  (hx:My L (parts.map (·.2))=some vs)(hi:parts.map (·.1)=List.range' 0 ys.length)(hlen:len=ys.length)(hv:vs.map (·.cells.toList)=ys.map Qb.enc)(hb:len*m<=16777216)(hd:Nat.blt d n=true)
  (kk:∀v' h',ia T ys v' h'->WX false g P ops Q n rest ((d,v')::L) (h'::H)):
  WX false g P ops Q n (⟨some d,.buildSlice t len parts.toArray,ty,pos,af,none⟩::rest) L H:=by
 subst hlen;refine WX.xZ hd λa w ha ho=>?_;obtain⟨z,h1,h2⟩:=JX.run (w:=w);have e:=ha.My hx
 have e2:parts.map (λx=>(x.1,a.eval x.2))=(parts.map (·.1)).zip vs:=by
  rw[<-e,map_map,zip_map',Function.comp_def]
 have hsz:z.cells.size=m:=by rw[h2];simpa using hzl
 have hf:=uK m ys vs 0 [] (List.replicate ys.length zs).flatten hm (by simp) (by simp[hzl]) hv;rw[<-hi,<-e2] at hf;simp only[nil_append] at hf;refine⟨.slice (some ⟨w.heap.size,0,none⟩) ys.length ys.length,w.alloc (.cells (List.toArray (Jb ys)) T (0,0)),_,?_,?_,kk _ [(w.heap.size,.cells (List.toArray (Jb ys)) T (0,0))] (ia.YT T w.heap.size ys)⟩
 .have hb': ¬(16777216<ys.length*m):=by omega
  by_cases h0:ys.length*m=0
  .have hm0:0<m:=by rw[hm];exact Qb.pos
   have hy0:ys.length=0:=by
    rcases Nat.mul_eq_zero.1 h0 with h|h
    .exact h
    .omega
   obtain rfl:ys=[]:=length_eq_zero_iff.1 hy0
   have hp:parts=[]:=by
    cases parts with
    |nil=>rfl
    |cons _ _=>simp at hi
   subst hp;simp[execOp,Instr.buildSlice,ht.run,hl.sizeOf,Instr.fill,newRow,Jb];congr 2;exact Array.toList_inj.1 (by simp)
  .have h0': ¬(ys=[]\/m=0):=by
    rintro(h|h)
    .subst h;simp at h0
    .subst h;simp at h0
   have hr:=xq zs m hzl (by rw[hm];exact Qb.pos) ys.length
   have hr':(Array.range (ys.length*m)).map (λi=>(zs.toArray)[i% m]!)=List.toArray (List.replicate ys.length zs).flatten:=by
    apply Array.toList_inj.1;simpa using hr
   simp[execOp,Instr.buildSlice,ht.run,hl.sizeOf,hb',h0',h1,h2,hzl,newRow];rw[if_neg h0]
   have DU:(Array.range (ys.length*m)).map (λx=>zs[x% m]?.getD default)=List.toArray (List.replicate ys.length zs).flatten:=by
    rw[<-hr'];simp
   rw[DU,hf];simp
 .exact ho.alloc _
def Up{t m:Nat}{ag:Bool}{zs:List Value}(ys:List α){vs:List Value}{parts:List (Nat×Operand)}{len:Nat}[ht:TU P t (.slice T)][hl:TL P T m ag][JX:TZ P T zs](kk:∀v' h',ia T ys v' h'->WX false g P ops Q n rest ((d,v')::L) (h'::H))(hm:m=Qb.sz α:=by exact rfl)(hzl:zs.length=m:=by exact rfl)
 (hx:My L (parts.map (·.2))=some vs:=by exact rfl)(hi:parts.map (·.1)=List.range' 0 ys.length:=by exact rfl)(hlen:len=ys.length:=by exact rfl)(hv:vs.map (·.cells.toList)=ys.map Qb.enc:=by exact rfl)(hb:len*m<=16777216:=by decide)(hd:Nat.blt d n=true:=by exact rfl):
 WX false g P ops Q n (⟨some d,.buildSlice t len parts.toArray,ty,pos,af,none⟩::rest) L H:=WX.lit hm hzl hx hi hlen hv hb hd kk
end
/- Guards for the scripts: which operation stands next. -/
section
variable{g:World}{P:Program}{ops:Array Oper}{Q:Exit->Act->World->Prop}{n:Nat}{rest:List Oper}{L:Fm}{H:HH}{q:Bool}
variable{d:Nat}{dst:Option Tmp}{op:Op}{ty:TypeId}{pos:String}{af:Array Edge}
def I.gd{j:Nat×Bool}(h:WX q g P ops Q n (⟨dst,op,ty,pos,af,some j⟩::rest) L H):WX q g P ops Q n (⟨dst,op,ty,pos,af,some j⟩::rest) L H:=h
def I.cond{c:Operand}{x y:Code}(h:W g P (.cond c x y) Q n L H):W g P (.cond c x y) Q n L H:=h
def I.pk{x y z:Operand}(h:WX q g P ops Q n (⟨some d,.pick x y z,ty,pos,af,none⟩::rest) L H):WX q g P ops Q n (⟨some d,.pick x y z,ty,pos,af,none⟩::rest) L H:=h
def I.nc{x:Operand}(h:WX q g P ops Q n (⟨some d,.nilCheck x,ty,pos,af,none⟩::rest) L H):WX q g P ops Q n (⟨some d,.nilCheck x,ty,pos,af,none⟩::rest) L H:=h
def I.fa{x:Operand}{t f:Nat}(h:WX q g P ops Q n (⟨some d,.fieldAddr t x f,ty,pos,af,none⟩::rest) L H):WX q g P ops Q n (⟨some d,.fieldAddr t x f,ty,pos,af,none⟩::rest) L H:=h
def I.ld{x:Operand}{t:Nat}(h:WX q g P ops Q n (⟨some d,.load t x,ty,pos,af,none⟩::rest) L H):WX q g P ops Q n (⟨some d,.load t x,ty,pos,af,none⟩::rest) L H:=h
def I.bin{x y:Operand}{t t':Nat}{bo:BinOp}(h:WX q g P ops Q n (⟨some d,.binOp bo t x y t',ty,pos,af,none⟩::rest) L H):WX q g P ops Q n (⟨some d,.binOp bo t x y t',ty,pos,af,none⟩::rest) L H:=h
def I.un{x:Operand}{t:Nat}{uo:UnOp}(h:WX q g P ops Q n (⟨some d,.unOp uo t x,ty,pos,af,none⟩::rest) L H):WX q g P ops Q n (⟨some d,.unOp uo t x,ty,pos,af,none⟩::rest) L H:=h
def I.bi{b:Builtin}{mG:Array Operand}{ts:Array TypeId}(h:WX q g P ops Q n (⟨some d,.call ⟨.builtin b,mG,ts⟩,ty,pos,af,none⟩::rest) L H):WX q g P ops Q n (⟨some d,.call ⟨.builtin b,mG,ts⟩,ty,pos,af,none⟩::rest) L H:=h
def I.biN{b:Builtin}{mG:Array Operand}{ts:Array TypeId}(h:WX q g P ops Q n (⟨none,.call ⟨.builtin b,mG,ts⟩,ty,pos,af,none⟩::rest) L H):WX q g P ops Q n (⟨none,.call ⟨.builtin b,mG,ts⟩,ty,pos,af,none⟩::rest) L H:=h
def I.ix{x y:Operand}{t:Nat}(h:WX q g P ops Q n (⟨some d,.indexAddr t x y,ty,pos,af,none⟩::rest) L H):WX q g P ops Q n (⟨some d,.indexAddr t x y,ty,pos,af,none⟩::rest) L H:=h
def I.st{x y:Operand}{t:Nat}(h:WX q g P ops Q n (⟨none,.store t x y,ty,pos,af,none⟩::rest) L H):WX q g P ops Q n (⟨none,.store t x y,ty,pos,af,none⟩::rest) L H:=h
def I.bd{t:Nat}{ps:Array (Nat×Operand)}(h:WX q g P ops Q n (⟨some d,.build t ps,ty,pos,af,none⟩::rest) L H):WX q g P ops Q n (⟨some d,.build t ps,ty,pos,af,none⟩::rest) L H:=h
def I.bs{t l:Nat}{ps:Array (Nat×Operand)}(h:WX q g P ops Q n (⟨some d,.buildSlice t l ps,ty,pos,af,none⟩::rest) L H):WX q g P ops Q n (⟨some d,.buildSlice t l ps,ty,pos,af,none⟩::rest) L H:=h
def I.sl{x:Operand}{t:Nat}{lo hi mx:Option Operand}(h:WX q g P ops Q n (⟨some d,.slice t x lo hi mx,ty,pos,af,none⟩::rest) L H):WX q g P ops Q n (⟨some d,.slice t x lo hi mx,ty,pos,af,none⟩::rest) L H:=h
def I.ixv{x y:Operand}{t:Nat}(h:WX q g P ops Q n (⟨some d,.index t x y,ty,pos,af,none⟩::rest) L H):WX q g P ops Q n (⟨some d,.index t x y,ty,pos,af,none⟩::rest) L H:=h
def I.cl{f:FuncId}{mG:Array Operand}{ts:Array TypeId}(h:WX q g P ops Q n (⟨some d,.call ⟨.value (.func f),mG,ts⟩,ty,pos,af,none⟩::rest) L H):WX q g P ops Q n (⟨some d,.call ⟨.value (.func f),mG,ts⟩,ty,pos,af,none⟩::rest) L H:=h
end
variable{g:World}{Q:Exit->Act->World->Prop}{n id:Nat}{L:Fm}{H r:HH}{l:List Oper}
section
variable{P:Program}{ops:Array Oper}{md:Region.Mode}{C:World->Prop}
def Rx(P:Program)(ops:Array Oper)(C:World->Prop)(o:Oper)(v:Value)(a:Act):Prop:=
 (Region.wanted o (yielded ops a.tmps)=true/\∀w,C w->(execOp a.eval o).run P w= .ok (.value v) w)\/(Region.wanted o (yielded ops a.tmps)=false/\v=undef)
def Yu(P:Program)(ops:Array Oper)(o:Oper)(K:Value->World->Prop)(a:Act)(w:World):Prop:=
 (Region.wanted o (yielded ops a.tmps)=false/\K undef w)\/
 (Region.wanted o (yielded ops a.tmps)=true/\
  ((∃v w',(execOp a.eval o).run P w= .ok (.value v) w'/\K v w')\/(∃w',(execOp a.eval o).run P w= .ok .skip w'/\K undef w')\/
   ∃f args w',(execOp a.eval o).run P w= .ok (.enter f args) w'/\Calls P f args w' λe w''=>∃v,e= .returned v/\K v w''))
def Yu.mono{o:Oper}{K K':Value->World->Prop}{a:Act}{w:World}(h:Yu P ops o K a w)(k:∀v w,K v w->K' v w):Yu P ops o K' a w:=by
 rcases h with⟨h1,h2⟩|⟨h1,⟨v,w',h2,h3⟩|⟨w',h2,h3⟩|⟨f,args,w',h2,h3⟩⟩
 .exact .inl ⟨h1,k _ _ h2⟩
 .exact .inr ⟨h1,.inl ⟨v,w',h2,k _ _ h3⟩⟩
 .exact .inr ⟨h1,.inr (.inl ⟨w',h2,k _ _ h3⟩)⟩
 .exact .inr ⟨h1,.inr (.inr ⟨f,args,w',h2,h3.mono λe w'' ⟨v,e1,e2⟩=>⟨v,e1,k _ _ e2⟩⟩)⟩
def Yu.ex{o:Oper}{K:Value->World->Prop}{a:Act}{w:World}(h:Yu P ops o K a w):∃v w',K v w':=by
 rcases h with⟨h1,h2⟩|⟨h1,⟨v,w',h2,h3⟩|⟨w',h2,h3⟩|⟨f,args,w',h2,h3⟩⟩
 .exact⟨_,_,h2⟩
 .exact⟨_,_,h3⟩
 .exact⟨_,_,h3⟩
 .obtain⟨e,w'',fr,⟨v,_,hK⟩,_⟩:=h3 [];exact⟨_,_,hK⟩
def Yu.wpOp{o:Oper}{K:Value->World->Prop}{a:Act}{w:World}{Q:Exit->Act->World->Prop}{i:Nat}(hi:ops[i]? =some o)(h:Yu P ops o K a w){K':Act->World->Prop}(k:∀v w',K v w'->K' (a.put o.dst v) w'):Go.wpOp P ops Q i K' a w:=by
 unfold Go.wpOp;simp only[hi];rcases h with⟨h1,h2⟩|⟨h1,h2⟩
 .simp only[h1,Bool.false_eq_true,if_false];exact k _ _ h2
 .simp only[h1,if_true];refine .inl ?_;unfold Oper.wp;rcases h2 with⟨v,w',h2,h3⟩|⟨w',h2,h3⟩|⟨f,args,w',h2,h3⟩
  .rw[h2];exact k _ _ h3
  .rw[h2];exact k _ _ h3
  .rw[h2];refine h3.mono λe w'' ⟨v,e1,e2⟩=>?_;subst e1;exact k _ _ e2
def Rx.same{o:Oper}{v:Value}{a a':Act}(h:Rx P ops C o v a)(he:execOp a'.eval o=execOp a.eval o)(hw:Region.wanted o (yielded ops a'.tmps)=Region.wanted o (yielded ops a.tmps)):Rx P ops C o v a':=by
 unfold Rx at*;rw[he,hw];exact h
def Yu.same{o:Oper}{K:Value->World->Prop}{a a':Act}{w:World}(h:Yu P ops o K a w)(he:execOp a'.eval o=execOp a.eval o)(hw:Region.wanted o (yielded ops a'.tmps)=Region.wanted o (yielded ops a.tmps)):Yu P ops o K a' w:=by
 unfold Yu at*;rw[he,hw];exact h
def Rx.uniq{o:Oper}{v v':Value}{a:Act}{w:World}(hc:C w)(h:Rx P ops C o v a)(h':Rx P ops C o v' a):v=v':=by
 rcases h with⟨h1,h2⟩|⟨h1,rfl⟩<;>rcases h' with⟨g1,g2⟩|⟨g1,rfl⟩
 .have:=(h2 w hc).symm.trans (g2 w hc);simpa using this
 .rw[h1] at g1;cases g1
 .rw[h1] at g1;cases g1
 .rfl
def AM(P:Program)(md:Region.Mode)(ops:Array Oper)(C:World->Prop)(un:Nat->Bool)(L:Array Bool->Act->World->Prop):Nat->Array Bool->Act->World->Prop
 |0,listed,a,w=>C w/\L listed a w
 |f+1,listed,a,w=>C w/\Region.ready md ops listed≠[]/\∀i∈Region.ready md ops listed,∃o,ops[i]? =some o/\
   (match un i with
    |true=>∃v,Rx P ops C o v a/\AM P md ops C un L f (listed.setIfInBounds i true) (a.put o.dst v) w
    |false=>Yu P ops o (λv w'=>AM P md ops C un L f (listed.setIfInBounds i true) (a.put o.dst v) w') a w)
variable{un:Nat->Bool}{L:Array Bool->Act->World->Prop}
def AM.any{Q:Exit->Act->World->Prop}{gg:Nat}(hL:∀listed a w,L listed a w->wpAny P md ops Q gg listed a w):∀(f:Nat) (listed:Array Bool) (a:Act) (w:World),AM P md ops C un L f listed a w->wpAny P md ops Q (f+gg) listed a w
 |0,listed,a,w,h=>by rw[Nat.zero_add];exact hL _ _ _ h.2
 |f+1,listed,a,w,h=>by
  rw[show f+1+gg=(f+gg)+1 by omega];refine⟨λe=>absurd e h.2.1,λi hi=>?_⟩;obtain⟨o,ho,h2⟩:=h.2.2 i hi
  cases hu:un i with
  |true=>
   rw[hu] at h2;obtain⟨v,hy,h3⟩:=h2;have h4:=AM.any hL f _ _ _ h3;unfold wpOp;simp only[ho];rcases hy with⟨y1,y2⟩|⟨y1,rfl⟩
   .simp only[y1,if_true];refine .inl ?_;unfold Oper.wp;rw[y2 w h.1];exact h4
   .simp only[y1,Bool.false_eq_true,if_false];exact h4
  |false=>
   rw[hu] at h2;exact h2.wpOp ho λv w' h3=>AM.any hL f _ _ _ h3
def waits(md:Region.Mode)(ops:Array Oper):Nat->Nat->Nat->Bool
 |0,_,_=>false
 |f+1,j,i=>match ops[j]? with
  |none=>false
  |some oj=>oj.after.any λe=>Region.binds md e && (e.on==i||waits md ops f e.on i)
def Og(md:Region.Mode)(ops:Array Oper)(listed:Array Bool):Prop:=∀j oj,ops[j]? =some oj->listed.getD j false=true->∀e∈oj.after,Region.binds md e=true->listed.getD e.on false=true
def Qu{listed:Array Bool}(hc:Og md ops listed):∀(f j i:Nat) (oj:Oper),ops[j]? =some oj->(∀e∈oj.after,Region.binds md e=true->listed.getD e.on false=true)->waits md ops f j i=true->listed.getD i false=true
 |0,_,_,_,_,_,h=>by cases h
 |f+1,j,i,oj,hj,hall,h=>by
  simp only[waits,hj] at h;obtain⟨e,he,hb⟩:=Array.any_eq_true'.1 h;simp only[Bool.and_eq_true,Bool.or_eq_true,beq_iff_eq] at hb;have h1:=hall e he hb.1;rcases hb.2 with h2|h2
  .rw[<-h2];exact h1
  .cases hx:ops[e.on]? with
   |none=>cases f<;>simp[waits,hx] at h2
   |some ox=>exact Qu hc f e.on i ox hx (hc e.on ox hx h1) h2
def Og.set{listed:Array Bool}{i:Nat}(hc:Og md ops listed)(hi:i∈Region.ready md ops listed):Og md ops (listed.setIfInBounds i true):=by
 obtain⟨_,oi,L1,hall⟩:=mem_ready.1 hi;intro j oj hj hl e he hb;by_cases hij:i=j
 .subst hij;have:oj=oi:=Option.some.inj (hj.symm.trans L1);subst this;exact getD_set_true (hall e he hb)
 .rw[getD_set_ne false hij] at hl;exact getD_set_true (hc j oj hj hl e he hb)
def yj{listed:Array Bool}{f j i:Nat}(hc:Og md ops listed)(hj:j∈Region.ready md ops listed)(h:waits md ops f j i=true):listed.getD i false=true:=by
 obtain⟨_,oj,br,hall⟩:=mem_ready.1 hj;exact Qu hc f j i oj br hall h
structure Bx(md:Region.Mode)(ops:Array Oper)(un:Nat->Bool)(m:Nat):Prop where
 Vd:∀(j:Nat) (o:Oper) cs b,ops[j]? =some o->o.op≠ .select cs b
 chain:∀i j,i<j->j<m->un i=false->un j=false->∃f,waits md ops f j i=true
 sink:∀i t,i<m->m<=t->t<ops.size->∃f,waits md ops f t i=true
def Rk{m k:Nat}{listed:Array Bool}(mo:Bx md ops un m)(hc:Og md ops listed)(hk:k<m)(hun:listed.getD k true=false){t:Nat}(ht:t∈Region.ready md ops listed):t<m:=by
 rcases Nat.lt_or_ge t m with h|h
 .exact h
 .obtain⟨_,ot,O9,_⟩:=mem_ready.1 ht;obtain⟨f0,ey⟩:=mo.sink k t hk h (Array.getElem?_eq_some_iff.1 O9).1;have:=yj hc ht ey;rw[getD_both hun] at this;cases this
def AM.cU{m k:Nat}{ok:Oper}{u:Value}(mo:Bx md ops un m)(hk:ops[k]? =some ok)(hun:un k=true)(hkm:k<m)(hdone:∀listed a w,L listed a w->∀j∈Region.ready md ops listed,m<=j):
  ∀(f:Nat) (listed:Array Bool) (a:Act) (w:World),Og md ops listed->
   (∀j oj,ops[j]? =some oj->j≠k->listed.getD j true=false->(∀e∈oj.after,Region.binds md e=true->e.on≠k)->ok.apart ops oj=true)->
   k∈Region.ready md ops listed->Rx P ops C ok u a->AM P md ops C un L f (listed.setIfInBounds k true) (a.put ok.dst u) w->AM P md ops C un L (f+1) listed a w:=by
 intro f
 induction f with
 |zero=>
  intro listed a w hc _ hr hy H;have nj:=(mem_ready.1 hr).1;refine⟨H.1,λh=>(by rw[h] at hr;cases hr),λj hj=>?_⟩;by_cases hjk:j=k
  .subst hjk;refine⟨ok,hk,?_⟩;rw[hun];exact⟨u,hy,H⟩
  .have h1:=hdone _ _ _ H.2 j (ready_mono hj hjk);have h2:=Rk mo hc hkm nj hj
   omega
 |succ f ih=>
  intro listed a w hc hfree hr hy H;have nj:=(mem_ready.1 hr).1;refine⟨H.1,λh=>(by rw[h] at hr;cases hr),λj hj=>?_⟩;by_cases hjk:j=k
  .subst hjk;refine⟨ok,hk,?_⟩;rw[hun];exact⟨u,hy,H⟩
  .obtain⟨o,ho,h2⟩:=H.2.2 j (ready_mono hj hjk);obtain⟨ym,oj,br,hall⟩:=mem_ready.1 hj;have:o=oj:=Option.some.inj (ho.symm.trans br);subst this
   have hno:∀e∈o.after,Region.binds md e=true->e.on≠k:=λe he hb heq=>by
    have h1:=hall e he hb;rw[heq,getD_both nj] at h1;cases h1
   have hap:=hfree j o br hjk ym hno;obtain⟨q1,q2,q3⟩:=Oper.apart_spec hap;have Ys:∀cs b,o.op≠ .select cs b:=λcs b=>mo.Vd j o cs b br;have EA:∀cs b,ok.op≠ .select cs b:=λcs b=>mo.Vd k ok cs b hk
   have Gi:∀i oi,ops[i]? =some oi->i≠k->(listed.setIfInBounds j true).getD i true=false->(∀e∈oi.after,Region.binds md e=true->e.on≠k)->ok.apart ops oi=true:=λi oi hi hik hl hn=>by
    refine hfree i oi hi hik ?_ hn;by_cases hji:j=i
    .subst hji;exact ym
    .rwa [getD_set_ne true hji] at hl
   have Yj:=hc.set hj;have hr':=ready_mono hr (Ne.symm hjk);have CX:∀v,Rx P ops C ok u (a.put o.dst v):=λv=>hy.same (execOp_put ok EA a o.dst v λd hd=>q3 d hd) (wanted_put ok a o.dst v λd hd=>q3 d hd);refine⟨o,br,?_⟩
   cases Zu:un j with
   |true=>
    rw[Zu] at h2;obtain⟨v,hv,h3⟩:=h2;refine⟨v,hv.same (execOp_put o Ys a ok.dst u λd hd=>q1 d hd).symm (wanted_put o a ok.dst u λd hd=>q1 d hd).symm,ih _ _ _ Yj Gi hr' (CX v) ?_⟩;rw[Array.setIfInBounds_comm _ _ hjk,<-Act.put_comm a u v q2]
    exact h3
   |false=>
    rw[Zu] at h2;refine(h2.same (execOp_put o Ys a ok.dst u λd hd=>q1 d hd).symm (wanted_put o a ok.dst u λd hd=>q1 d hd).symm).mono λv w' h3=>?_;refine ih _ _ _ Yj Gi hr' (CX v) ?_;rw[Array.setIfInBounds_comm _ _ hjk,<-Act.put_comm a u v q2];exact h3
def AM.dU{m k:Nat}{ok:Oper}(mo:Bx md ops un m)(hk:ops[k]? =some ok)(hun:un k=false)(hkm:k<m)(hdone:∀listed a w,L listed a w->∀j∈Region.ready md ops listed,m<=j):
  ∀(f:Nat) (listed:Array Bool) (a:Act) (w:World),Og md ops listed->C w->
   (∀j oj,ops[j]? =some oj->j≠k->listed.getD j true=false->(∀e∈oj.after,Region.binds md e=true->e.on≠k)->ok.apart ops oj=true)->
   (∀i,i<k->un i=false->listed.getD i true=true)->
   k∈Region.ready md ops listed->Yu P ops ok (λv w'=>AM P md ops C un L f (listed.setIfInBounds k true) (a.put ok.dst v) w') a w->AM P md ops C un L (f+1) listed a w:=by
 intro f
 induction f with
 |zero=>
  intro listed a w hc wK _ _ hr H;have nj:=(mem_ready.1 hr).1;refine⟨wK,λh=>(by rw[h] at hr;cases hr),λj hj=>?_⟩;by_cases hjk:j=k
  .subst hjk;refine⟨ok,hk,?_⟩;rw[hun];exact H
  .obtain⟨v0,w0,H0⟩:=H.ex;have h1:=hdone _ _ _ H0.2 j (ready_mono hj hjk);have h2:=Rk mo hc hkm nj hj
   omega
 |succ f ih=>
  intro listed a w hc wK hfree hpre hr H;have nj:=(mem_ready.1 hr).1;refine⟨wK,λh=>(by rw[h] at hr;cases hr),λj hj=>?_⟩;by_cases hjk:j=k
  .subst hjk;refine⟨ok,hk,?_⟩;rw[hun];exact H
  .obtain⟨ym,o,br,hall⟩:=mem_ready.1 hj;have hjm:=Rk mo hc hkm nj hj
   have Zu:un j=true:=by
    cases Zu:un j with
    |true=>rfl
    |false=>
     rcases Nat.lt_or_ge j k with h|h
     .have:=hpre j h Zu;rw[ym] at this;cases this
     .obtain⟨f0,ey⟩:=mo.chain k j (by omega) hjm hun Zu;have:=yj hc hj ey;rw[getD_both nj] at this;cases this
   have hno:∀e∈o.after,Region.binds md e=true->e.on≠k:=λe he hb heq=>by
    have h1:=hall e he hb;rw[heq,getD_both nj] at h1;cases h1
   have hap:=hfree j o br hjk ym hno;obtain⟨q1,q2,q3⟩:=Oper.apart_spec hap;have Ys:∀cs b,o.op≠ .select cs b:=λcs b=>mo.Vd j o cs b br;have EA:∀cs b,ok.op≠ .select cs b:=λcs b=>mo.Vd k ok cs b hk
   have Gi:∀i oi,ops[i]? =some oi->i≠k->(listed.setIfInBounds j true).getD i true=false->(∀e∈oi.after,Region.binds md e=true->e.on≠k)->ok.apart ops oi=true:=λi oi hi hik hl hn=>by
    refine hfree i oi hi hik ?_ hn;by_cases hji:j=i
    .subst hji;exact ym
    .rwa [getD_set_ne true hji] at hl
   have Yj:=hc.set hj;have hr':=ready_mono hr (Ne.symm hjk)
   have Cx:∀i,i<k->un i=false->(listed.setIfInBounds j true).getD i true=true:=λi h1 h2=>by
    by_cases hji:j=i
    .subst hji;rw[Zu] at h2;cases h2
    .rw[getD_set_ne true hji];exact hpre i h1 h2
   have key:∀v w',AM P md ops C un L (f+1) (listed.setIfInBounds k true) (a.put ok.dst v) w'->∃u,Rx P ops C o u a/\AM P md ops C un L f ((listed.setIfInBounds j true).setIfInBounds k true) ((a.put o.dst u).put ok.dst v) w':=λv w' h=>by
    obtain⟨o',ho',h2⟩:=h.2.2 j (ready_mono hj hjk);have:o'=o:=Option.some.inj (ho'.symm.trans br);subst this;rw[Zu] at h2;obtain⟨u,hu,h3⟩:=h2;refine⟨u,hu.same (execOp_put o' Ys a ok.dst v λd hd=>q1 d hd).symm (wanted_put o' a ok.dst v λd hd=>q1 d hd).symm,?_⟩;rw[Array.setIfInBounds_comm _ _ hjk,<-Act.put_comm a v u q2];exact h3
   obtain⟨v0,w0,H0⟩:=H.ex;obtain⟨u,hu,_⟩:=key v0 w0 H0;refine⟨o,br,?_⟩;rw[Zu];refine⟨u,hu,ih _ _ _ Yj wK Gi Cx hr' ?_⟩;refine(H.mono λv w' h=>?_).same (execOp_put ok EA a o.dst u λd hd=>q3 d hd) (wanted_put ok a o.dst u λd hd=>q3 d hd);obtain⟨u',GW,h4⟩:=key v w' h;have:u'=u:=Rx.uniq wK GW hu;subst this;exact h4
def yq(P:Program)(ops:Array Oper)(C:World->Prop)(Q:Exit->Act->World->Prop)(tail:List Oper):List (Bool×Oper)->Act->World->Prop
 |[],a,w=>wpList P ops Q tail a w
 |(true,o)::r,a,w=>∃u,Rx P ops C o u a/\yq P ops C Q tail r (a.put o.dst u) w
 |(false,o)::r,a,w=>Yu P ops o (λv w'=>C w'/\yq P ops C Q tail r (a.put o.dst v) w') a w
def FA{m gg:Nat}{Q:Exit->Act->World->Prop}{tail:List Oper}(mo:Bx md ops un m):∀(z:List (Bool×Oper)) (k:Nat) (listed:Array Bool) (a:Act) (w:World),
  (∀j x,z[j]? =some x->ops[k+j]? =some x.2/\un (k+j)=x.1)->k+z.length=m->Og md ops listed->(∀i,i<k->listed.getD i true=true)->Region.lexHead md ops gg z.length k listed=true->C w->yq P ops C Q tail z a w->
  AM P md ops C un (λFf a' w'=>Region.seqB md ops gg m Ff=true/\wpList P ops Q tail a' w') z.length listed a w
 |[],k,listed,a,w,_,hk,_,_,hB,hc,h=>by
  have:k=m:=by simpa using hk
  subst this
  exact⟨hc,by simpa[Region.lexHead] using hB,h⟩
 |(b,o)::z,k,listed,a,w,hz,hk,Ah,hpre,hB,hc,h=>by
  obtain⟨h0,h1⟩:=hz 0 (b,o) rfl;simp only[Nat.add_zero] at h0 h1;simp only[Ib] at hk;simp only[Ib,Region.lexHead,Bool.and_eq_true] at hB;obtain⟨⟨hr,hf⟩,DX⟩:=hB;have hr':k∈Region.ready md ops listed:=by simpa using hr
  have hz':∀j x,z[j]? =some x->ops[k+1+j]? =some x.2/\un (k+1+j)=x.1:=λj x hx=>by
   have:=hz (j+1) x (by simpa using hx);rwa [show k+(j+1)=k+1+j by omega] at this
  have hks:k<listed.size:=by
   have:=(mem_ready.1 hr').1;rcases Nat.lt_or_ge k listed.size with h|h
   .exact h
   .simp[Array.getElem?_eq_none h] at this
  have Cx:∀i,i<k+1->(listed.setIfInBounds k true).getD i true=true:=λi hi=>by
   by_cases hik:k=i
   .subst hik;simp[hks]
   .rw[getD_set_ne true hik];exact hpre i (by omega)
  have hdone:∀(Ff:Array Bool) (a':Act) (w':World),(Region.seqB md ops gg m Ff=true/\wpList P ops Q tail a' w')->∀j∈Region.ready md ops Ff,m<=j:=λFf a' w' hL=>seqB_ready hL.1
  cases b with
  |true=>
   obtain⟨u,hu,h2⟩:=h
   exact AM.cU mo h0 h1 (by omega) hdone _ _ _ _ Ah (Region.free_spec h0 hf) hr' hu (FA mo z (k+1) _ _ _ hz' (by omega) (Ah.set hr') Cx DX hc h2)
  |false=>
   refine AM.dU mo h0 h1 (by omega) hdone _ _ _ _ Ah hc (Region.free_spec h0 hf) (λi hi _=>hpre i hi) hr' ?_;exact Yu.mono h λv w' h2=>FA mo z (k+1) _ _ _ hz' (by omega) (Ah.set hr') Cx DX h2.1 h2.2
def RQ(md:Region.Mode)(ops:Array Oper)(ms:List Bool):Bool:=
 Region.noSelect ops && decide (ms.length<=ops.size) &&
 ((List.range ms.length).all λj=>(List.range j).all λi=>ms.getD i true||ms.getD j true||waits md ops 4 j i) &&
 ((List.range ops.size).all λt=>decide (t<ms.length)||(List.range ms.length).all λi=>waits md ops 4 t i) &&
 Region.lexHead md ops (ops.size - ms.length) ms.length 0 (Array.replicate ops.size false)
def HW{ms:List Bool}(h:RQ md ops ms=true):Bx md ops (λi=>ms.getD i true) ms.length/\ms.length<=ops.size/\Region.lexHead md ops (ops.size - ms.length) ms.length 0 (Array.replicate ops.size false)=true:=by
 simp only[RQ,Bool.and_eq_true,decide_eq_true_eq] at h;obtain⟨⟨⟨⟨h1,h2⟩,h3⟩,h4⟩,h5⟩:=h;refine⟨⟨Region.noSelect_spec h1,λi j hij hj hi hj'=>?_,λi t hi ht hts=>?_⟩,h2,h5⟩
 .have:=all_eq_true.1 (all_eq_true.1 h3 j (mem_range.2 hj)) i (mem_range.2 hij);simp only[hi,hj',Bool.false_or] at this;exact⟨4,this⟩
 .have:=all_eq_true.1 h4 t (mem_range.2 hts);simp only[Bool.or_eq_true,decide_eq_true_eq] at this;rcases this with h|h
  .omega
  .exact⟨4,all_eq_true.1 h i (mem_range.2 hi)⟩
def Yf(n:Nat)(md:Region.Mode)(ops:Array Oper)(ms:List Bool):Bool:=
 Region.noSelect ops && decide (ms.length<=ops.size) &&
 ((List.range ms.length).all λj=>(List.range j).all λi=>ms.getD i true||ms.getD j true||waits md ops n j i) &&
 ((List.range ops.size).all λt=>decide (t<ms.length)||(List.range ms.length).all λi=>waits md ops n t i) &&
 Region.lexHead md ops (ops.size - ms.length) ms.length 0 (Array.replicate ops.size false)
def IW{n:Nat}{ms:List Bool}(h:Yf n md ops ms=true):Bx md ops (λi=>ms.getD i true) ms.length/\ms.length<=ops.size/\Region.lexHead md ops (ops.size - ms.length) ms.length 0 (Array.replicate ops.size false)=true:=by
 simp only[Yf,Bool.and_eq_true,decide_eq_true_eq] at h;obtain⟨⟨⟨⟨h1,h2⟩,h3⟩,h4⟩,h5⟩:=h;refine⟨⟨Region.noSelect_spec h1,λi j hij hj hi hj'=>?_,λi t hi ht hts=>?_⟩,h2,h5⟩
 .have:=all_eq_true.1 (all_eq_true.1 h3 j (mem_range.2 hj)) i (mem_range.2 hij);simp only[hi,hj',Bool.false_or] at this;exact⟨n,this⟩
 .have:=all_eq_true.1 h4 t (mem_range.2 hts);simp only[Bool.or_eq_true,decide_eq_true_eq] at this;rcases this with h|h
  .omega
  .exact⟨n,all_eq_true.1 h i (mem_range.2 hi)⟩
def Nr{id:Nat}{Q:Exit->Act->World->Prop}{a:Act}{w:World}{l:List Oper}(ms:List Bool)(hm:P.follows .mixedOrders=true)(hB:RQ .any l.toArray ms=true)(hC:C w.drew)
  (h:yq P l.toArray C Q (l.drop ms.length) (ms.zip l) a w.drew):(Code.region id l.toArray true).wp P Q a w:=by
 obtain⟨mo,hle,eU⟩:=HW hB;have hle':ms.length<=l.length:=by simpa using hle
 have hzl:(ms.zip l).length=ms.length:=by rw[length_zip];omega
 refine wp_region_any hm ?_
 have H:=FA (P:=P) (C:=C) (md:= .any) (gg:=l.toArray.size - ms.length) (Q:=Q) (tail:=l.drop ms.length) mo (ms.zip l) 0 (Array.replicate l.toArray.size false) a w.drew
  (λj x hx=>by
   rw[List.getElem?_zip_eq_some] at hx;obtain⟨x1,x2⟩:=hx;simp[x1,x2]) (by rw[Nat.zero_add];exact hzl) (λj oj _ hl=>by rw[getD_replicate_false] at hl;cases hl) (λi hi=>absurd hi (by omega)) (by rw[hzl];exact eU) hC h
 have:=AM.any (Q:=Q) (gg:=l.toArray.size - ms.length) (λlisted a' w' hL=>by
  have:=wpAny_of_seq (md:= .any) (Q':=Q) (l.drop ms.length) ms.length listed a' w' (λj=>by simp[List.getElem?_drop]) (by rw[length_drop];simpa using hL.1) hL.2;simpa using this) _ _ _ _ H
 rw[hzl,show ms.length+(l.toArray.size - ms.length)=l.toArray.size by omega] at this;exact this
def GA{nn:Nat}{id:Nat}{Q:Exit->Act->World->Prop}{a:Act}{w:World}{l:List Oper}(ms:List Bool)(hm:P.follows .mixedOrders=true)(hB:Yf nn .any l.toArray ms=true)(hC:C w.drew)
  (h:yq P l.toArray C Q (l.drop ms.length) (ms.zip l) a w.drew):(Code.region id l.toArray true).wp P Q a w:=by
 obtain⟨mo,hle,eU⟩:=IW hB;have hle':ms.length<=l.length:=by simpa using hle
 have hzl:(ms.zip l).length=ms.length:=by rw[length_zip];omega
 refine wp_region_any hm ?_
 have H:=FA (P:=P) (C:=C) (md:= .any) (gg:=l.toArray.size - ms.length) (Q:=Q) (tail:=l.drop ms.length) mo (ms.zip l) 0 (Array.replicate l.toArray.size false) a w.drew
  (λj x hx=>by
   rw[List.getElem?_zip_eq_some] at hx;obtain⟨x1,x2⟩:=hx;simp[x1,x2]) (by rw[Nat.zero_add];exact hzl) (λj oj _ hl=>by rw[getD_replicate_false] at hl;cases hl) (λi hi=>absurd hi (by omega)) (by rw[hzl];exact eU) hC h
 have:=AM.any (Q:=Q) (gg:=l.toArray.size - ms.length) (λlisted a' w' hL=>by
  have:=wpAny_of_seq (md:= .any) (Q':=Q) (l.drop ms.length) ms.length listed a' w' (λj=>by simp[List.getElem?_drop]) (by rw[length_drop];simpa using hL.1) hL.2;simpa using this) _ _ _ _ H
 rw[hzl,show ms.length+(l.toArray.size - ms.length)=l.toArray.size by omega] at this;exact this
end
class ND(P:Program)(o:Oper):Prop where
 h:∀(a:Act) w nx w',(execOp a.eval o).run P w= .ok nx w'->(∃v,nx= .value v)\/nx= .skip\/∃f args,nx= .enter f args
section
variable{P:Program}{d:Option Nat}{ty:TypeId}{pos:String}{af:Array Edge}{gd:Option (Nat×Bool)}
def cr{s:Sem Value}{w w':World}{nx:Next}(h:(do pure (Next.value (<-s)):Sem Next).run P w= .ok nx w'):∃v,nx= .value v:=by
 simp only[Sem.run_bind] at h
 cases hr:s.run P w with
 |ok v w1=>simp only[hr,Result.andThen_ok,Sem.run_pure,Result.ok.injEq] at h;exact⟨v,h.1.symm⟩
 |halt x w1=>simp[hr] at h
def P9{s:Sem Unit}{w w':World}{nx:Next}(h:(do s;pure Next.skip:Sem Next).run P w= .ok nx w'):nx= .skip:=by
 simp only[Sem.run_bind] at h
 cases hr:s.run P w with
 |ok v w1=>simp only[hr,Result.andThen_ok,Sem.run_pure,Result.ok.injEq] at h;exact h.1.symm
 |halt x w1=>simp[hr] at h
instance ND.store{t:Nat}{x y:Operand}:ND P ⟨d,.store t x y,ty,pos,af,gd⟩:=⟨λ_ _ _ _ h=> .inr (.inl (P9 h))⟩
instance ND.load{t:Nat}{x:Operand}:ND P ⟨d,.load t x,ty,pos,af,gd⟩:=⟨λ_ _ _ _ h=> .inl (cr h)⟩
instance ND.alloc{t:Nat}:ND P ⟨d,.alloc t,ty,pos,af,gd⟩:=⟨λ_ _ _ _ h=> .inl (cr h)⟩
instance ND.box{t:Nat}{x:Operand}:ND P ⟨d,.box t x,ty,pos,af,gd⟩:=⟨λ_ _ _ _ h=> .inl (cr h)⟩
instance ND.lit{t n:Nat}{ps:Array (Nat×Operand)}:ND P ⟨d,.buildSlice t n ps,ty,pos,af,gd⟩:=⟨λ_ _ _ _ h=> .inl (cr h)⟩
instance ND.call{f:FuncId}{mG:Array Operand}{ts:Array TypeId}[hn:Enters P f]:ND P ⟨d,.call ⟨.value (.func f),mG,ts⟩,ty,pos,af,gd⟩:=⟨λa w nx w' h=>by
 have e0:a.eval (.func f)= .func (.func f) #[] #[]:=rfl;simp only[execOp,resolve,e0] at h;simp[Deferred.ofValue,invoke,Wo hn] at h;exact .inr (.inr ⟨_,_,h.1.symm⟩)⟩
instance ND.app{mG:Array Operand}{ts:Array TypeId}:ND P ⟨d,.call ⟨.builtin .append,mG,ts⟩,ty,pos,af,gd⟩:=⟨λρ w nx w' h=>by
 simp only[execOp,resolve,Sem.run_bind,Sem.run_pure,Result.andThen_ok,invoke,builtin] at h;exact .inl (cr (by simpa using h))⟩
class NV(P:Program)(o:Oper):Prop where
 h:∀(a:Act) w nx w',(execOp a.eval o).run P w= .ok nx w'->∃v,nx= .value v
instance NV.load{t:Nat}{x:Operand}:NV P ⟨d,.load t x,ty,pos,af,gd⟩:=⟨λ_ _ _ _ h=>cr h⟩
instance NV.move{x:Operand}:NV P ⟨d,.move x,ty,pos,af,gd⟩:=⟨λ_ _ _ _ h=>⟨_,(Result.ok.inj h).1.symm⟩⟩
instance NV.assign{x:Operand}:NV P ⟨d,.assign x,ty,pos,af,gd⟩:=⟨λ_ _ _ _ h=>⟨_,(Result.ok.inj h).1.symm⟩⟩
instance NV.pick{c x y:Operand}:NV P ⟨d,.pick c x y,ty,pos,af,gd⟩:=⟨λa w nx w' h=>by
 simp only[execOp,Sem.run_bind] at h
 cases hr:(asBool (a.eval c)).run P w with
 |ok v w1=>simp only[hr,Result.andThen_ok,Sem.run_pure,Result.ok.injEq] at h;exact⟨_,h.1.symm⟩
 |halt x w1=>simp[hr] at h⟩
instance NV.nilCheck{x:Operand}:NV P ⟨d,.nilCheck x,ty,pos,af,gd⟩:=⟨λa w nx w' h=>by
 simp only[execOp] at h;split at h
 .simp[runtimePanic] at h
 .simp[runtimePanic] at h
 .simp[runtimePanic] at h
 .split at h
  .simp[runtimePanic] at h
  .simp only[Sem.run_bind,run_program,Result.andThen_ok] at h
   cases hr:(nilAhead (P.types.size+Made.depth) _ _ _).run P w with
   |halt x w1=>rw[hr] at h;cases h
   |ok r w1=>
    rw[hr] at h;simp only[Result.andThen_ok] at h;split at h
    .simp at h
    .exact⟨_,(Result.ok.inj h).1.symm⟩
  .exact⟨_,(Result.ok.inj h).1.symm⟩
 .exact⟨_,(Result.ok.inj h).1.symm⟩⟩
instance NV.bin{bo:BinOp}{t t':Nat}{x y:Operand}:NV P ⟨d,.binOp bo t x y t',ty,pos,af,gd⟩:=⟨λ_ _ _ _ h=>cr h⟩
instance NV.un{uo:UnOp}{t:Nat}{x:Operand}:NV P ⟨d,.unOp uo t x,ty,pos,af,gd⟩:=⟨λ_ _ _ _ h=>cr h⟩
instance NV.conv{t t':Nat}{x:Operand}:NV P ⟨d,.convert t t' x,ty,pos,af,gd⟩:=⟨λ_ _ _ _ h=>cr h⟩
instance NV.fieldAddr{t f:Nat}{x:Operand}:NV P ⟨d,.fieldAddr t x f,ty,pos,af,gd⟩:=⟨λ_ _ _ _ h=>cr h⟩
instance NV.indexAddr{t:Nat}{x y:Operand}:NV P ⟨d,.indexAddr t x y,ty,pos,af,gd⟩:=⟨λ_ _ _ _ h=>cr h⟩
instance NV.slice{t:Nat}{x:Operand}{lo hi mx:Option Operand}:NV P ⟨d,.slice t x lo hi mx,ty,pos,af,gd⟩:=⟨λ_ _ _ _ h=>cr h⟩
instance NV.build{t:Nat}{ps:Array (Nat×Operand)}:NV P ⟨d,.build t ps,ty,pos,af,gd⟩:=⟨λ_ _ _ _ h=>cr h⟩
instance NV.extract{i:Nat}{x:Operand}:NV P ⟨d,.extract x i,ty,pos,af,gd⟩:=⟨λ_ _ _ _ h=>cr h⟩
theorem fU{b:Builtin}(hb:∀ts ty cs vs,∃s:Sem Value,builtin b ts ty cs vs=(do pure (Next.value (<-s)):Sem Next)){mG:Array Operand}{ts:Array TypeId}:NV P ⟨d,.call ⟨.builtin b,mG,ts⟩,ty,pos,af,gd⟩:=⟨λa w nx w' h=>by
 simp only[execOp,resolve,Sem.run_bind,Sem.run_pure,Result.andThen_ok,invoke] at h
 have key:∀cs vs,(builtin b ts ty cs vs).run P w= .ok nx w'->∃v,nx= .value v:=λcs vs h=>by
  obtain⟨s,hs⟩:=hb ts ty cs vs;rw[hs] at h;exact cr h
 exact key _ _ h⟩
instance NV.len{mG:Array Operand}{ts:Array TypeId}:NV P ⟨d,.call ⟨.builtin .len,mG,ts⟩,ty,pos,af,gd⟩:=fU λ_ _ _ _=>⟨_,rfl⟩
instance NV.min{mG:Array Operand}{ts:Array TypeId}:NV P ⟨d,.call ⟨.builtin .min,mG,ts⟩,ty,pos,af,gd⟩:=fU λ_ _ _ _=>⟨_,rfl⟩
instance NV.max{mG:Array Operand}{ts:Array TypeId}:NV P ⟨d,.call ⟨.builtin .max,mG,ts⟩,ty,pos,af,gd⟩:=fU λ_ _ _ _=>⟨_,rfl⟩
end
section
variable{g:World}{P:Program}{ops:Array Oper}{Q:Exit->Act->World->Prop}{n:Nat}{L:Fm}{H H' Hc:HH}{tail:List Oper}{z:List (Bool×Oper)}{o:Oper}
structure WM(g:World)(P:Program)(ops:Array Oper)(Q:Exit->Act->World->Prop)(n:Nat)(Hc:HH)(tail:List Oper)(z:List (Bool×Oper))(L:Fm)(H:HH):Prop where
 run:∀a w,Fr n L a->on g H.flatten w->yq P ops (on g Hc.flatten) Q tail z a w
def P4(g:World)(P:Program)(ops:Array Oper)(Q:Exit->Act->World->Prop)(Hc:HH)(tail:List Oper)(z:List (Bool×Oper))(H:HH):Exit->Act->World->Prop:=
 λ_ a _=>∀w,on g H.flatten w->yq P ops (on g Hc.flatten) Q tail z a w
def UU(g:World)(P:Program)(ops:Array Oper)(Q:Exit->Act->World->Prop)(Hc:HH)(tail:List Oper)(z:List (Bool×Oper)):Exit->Act->World->Prop
 | .normal,a,w=>on g Hc.flatten w/\yq P ops (on g Hc.flatten) Q tail z a w
 |_,_,_=>False
def W.mix{id:Nat}{l:List Oper}(ms:List Bool)(Hc:HH){r:HH}[k:Oc Hc H r](hm:P.follows .mixedOrders=true)(hB:RQ .any l.toArray ms=true)(h:WM g P l.toArray Q n Hc (l.drop ms.length) (ms.zip l) L H):
  W g P (.region id l.toArray true) Q n L H:= .mk λa w ha hw=>
 have hd:on g H.flatten w.drew:=hw.heap rfl ⟨rfl,rfl,rfl,Nat.le_refl _⟩
 Nr (C:=on g Hc.flatten) ms hm hB ((Ia.qa k).on hd) (h.run a _ ha hd)
def W.Yf(nn:Nat){id:Nat}{l:List Oper}(ms:List Bool)(Hc:HH){r:HH}[k:Oc Hc H r](hm:P.follows .mixedOrders=true)(hB:Yf nn .any l.toArray ms=true)(h:WM g P l.toArray Q n Hc (l.drop ms.length) (ms.zip l) L H):
  W g P (.region id l.toArray true) Q n L H:= .mk λa w ha hw=>
 have hd:on g H.flatten w.drew:=hw.heap rfl ⟨rfl,rfl,rfl,Nat.le_refl _⟩
 GA (C:=on g Hc.flatten) ms hm hB ((Ia.qa k).on hd) (h.run a _ ha hd)
def WM.nil(h:WX false g P ops Q n tail L H):WM g P ops Q n Hc tail [] L H:=⟨λa w ha hw=>h a w ha hw⟩
def WM.un{r:HH}[nv:NV P o][k:Oc Hc H r](h:WX true g P ops (P4 g P ops Q Hc tail z H) n [o] L Hc):WM g P ops Q n Hc tail ((true,o)::z) L H:=⟨λa w ha hw=>by
 have hc:=(Ia.qa k).on hw;have h1:wpQuiet P ops (on g Hc.flatten) (λa'=>∀w',on g Hc.flatten w'->P4 g P ops Q Hc tail z H .normal a' w') [o] a:=h a w ha hc;simp only[wpQuiet] at h1;by_cases Xo:Region.wanted o (yielded ops a.tmps)=true
 .rw[if_pos Xo] at h1;obtain⟨v,hv,hK⟩:=h1;refine⟨v,.inl ⟨Xo,λw' Oi=>?_⟩,hK w hc w hw⟩;have h2:=hv w' Oi;unfold Oper.quietAt at h2
  cases hr:(execOp a.eval o).run P w' with
  |halt x w1=>rw[hr] at h2;exact h2.elim
  |ok nx w1=>
   obtain⟨u,rfl⟩:=nv.h a w' nx w1 hr;rw[hr] at h2;obtain⟨rfl,rfl⟩:=h2;rfl
 .rw[if_neg Xo] at h1;exact⟨undef,.inr ⟨by simpa using Xo,rfl⟩,h1 w hc w hw⟩⟩
def WM.lf(h:WM g P ops Q n Hc tail z L H):D g (P4 g P ops Q Hc tail z H) .normal n L H':= .mk λa w ha _ w' Oi=>h.run a w' ha Oi
def WM.an[nd:ND P o](h:WX false g P ops (UU g P ops Q Hc tail z) n [o] L H):WM g P ops Q n Hc tail ((false,o)::z) L H:=⟨λa w ha hw=>by
 have h1:wpList P ops (UU g P ops Q Hc tail z) [o] a w:=h a w ha hw;have hout: ¬LetsOut (UU g P ops Q Hc tail z):=λ⟨_,_,h⟩=>h;simp only[wpList] at h1;show Yu P ops o _ a w;by_cases Xo:Region.wanted o (yielded ops a.tmps)=true
 .rw[if_pos Xo] at h1;rcases h1 with h1|⟨_,h1⟩
  .refine .inr ⟨Xo,?_⟩;unfold Oper.wp at h1
   cases hr:(execOp a.eval o).run P w with
   |halt x w1=>
    rw[hr] at h1
    cases x<;>exact h1.elim
   |ok nx w1=>
    rw[hr] at h1;rcases nd.h a w nx w1 hr with⟨v,rfl⟩|rfl|⟨f,args,rfl⟩
    .exact .inl ⟨v,w1,rfl,h1⟩
    .exact .inr (.inl ⟨w1,rfl,h1⟩)
    .refine .inr (.inr ⟨f,args,w1,rfl,?_⟩);refine Calls.mono h1 λe w'' he=>?_
     cases e with
     |returned v=>exact⟨v,rfl,he⟩
     |panicked ch=>exact he.elim
     |outgrown=>exact(hout he).elim
  .exact(hout h1).elim
 .rw[if_neg Xo] at h1;exact .inl ⟨by simpa using Xo,h1⟩⟩
def WM.back{r:HH}[k:Oc Hc H r](h:WM g P ops Q n Hc tail z L H):D g (UU g P ops Q Hc tail z) .normal n L H:= .mk λa w ha hw=>⟨(Ia.qa k).on hw,h.run a w ha hw⟩
end
def KK(ms:List Bool)(Hc:HH)[m:Mx P][k:Oc Hc H r](h:WM g P l.toArray Q n Hc (l.drop ms.length) (ms.zip l) L H)(hB:Yf 8 .any l.toArray ms=true:=by kernel_rfl):W g P (.region id l.toArray true) Q n L H:=W.Yf 8 ms Hc m.h hB h
def iX(ms:List Bool)(Hc:HH)[m:Mx P][k:Oc Hc H r](h:WM g P l.toArray Q n Hc (l.drop ms.length) (ms.zip l) L H)(hB:RQ .any l.toArray ms=true:=by kernel_rfl):W g P (.region id l.toArray true) Q n L H:=W.mix ms Hc m.h hB h
variable{x y:Value}{b:Bool}
inductive CK where
 |i|s|b
 deriving DecidableEq
def Um:CK->Value->Value->Option Bool
 | .i,.int k a,.int k' b=>if k=k' then some (decide (a=b)) else none
 | .s,.string a,.string b=>some (decide (a=b))
 | .b,.bool a,.bool b=>some (decide (a=b))
 |_,_,_=>none
def Ab:List CK->List Value->List Value->Option Bool
 |[],[],[]=>some true
 |k::ks,x::xs,y::ys=>match Um k x y,Ab ks xs ys with
  |some b,some c=>some (b && c)
  |_,_=>none
 |_,_,_=>none
def Jm(P:Program)(bQ:Nat->Option (List CK)):Nat->List Field->Option (List CK)
 |_,[]=>some []
 |off,fd::r=>match fd.name != "_" && fd.offset==off,bQ fd.type with
  |true,some ks=>if(P.info? fd.type).map (·.size)=some ks.length then(Jm P bQ (off+ks.length) r).map (ks++ ·) else none
  |_,_=>none
def Uq(P:Program):Nat->Nat->Option (List CK)
 |0,_=>none
 |f+1,t=>match P.underlying t with
  |some (.int _)=>some [.i]
  |some .string=>some [.s]
  |some .bool=>some [.b]
  |some (.struct fs)=>if P.stoodInHeld t then none else Jm P (Uq P f) 0 fs.toList
  |some (.array n e)=>match Uq P f e with
   |some ks=>if(P.info? e).map (·.size)=some ks.length then some (List.replicate n ks).flatten else none
   |none=>none
  |_=>none
def Gw(a b:ByteArray):(a==b)=decide (a=b):=by
 by_cases h:a=b
 .subst h;rw[Mi rfl,beq_toListBytes];simp
 .rw[rj h,beq_toListBytes,ByteArray.toList_eq,ByteArray.toList_eq];have: ¬a.data.toList=b.data.toList:=λe=>h (by cases a;cases b;simpa using e);simpa using this
def zq:∀(ks:List CK) (xs ys:List Value) (b:Bool),Ab ks xs ys=some b->xs.length=ks.length/\ys.length=ks.length
 |[],[],[],_,_=>⟨rfl,rfl⟩
 |[],_::_,_,_,h=>by simp[Ab] at h
 |[],[],_::_,_,h=>by simp[Ab] at h
 |_::_,[],_,_,h=>by simp[Ab] at h
 |_::_,_::_,[],_,h=>by simp[Ab] at h
 |k::ks,x::xs,y::ys,b,h=>by
  simp only[Ab] at h;split at h
  .rename_i b' c h1 h2;obtain⟨e1,e2⟩:=zq ks xs ys c h2;exact⟨by simp[e1],by simp[e2]⟩
  .cases h
def Sk:∀(ks ks':List CK) (xs ys:List Value) (b:Bool),Ab (ks++ks') xs ys=some b->
  ∃c d,Ab ks (xs.take ks.length) (ys.take ks.length)=some c/\Ab ks' (xs.drop ks.length) (ys.drop ks.length)=some d/\b=(c && d)
 |[],ks',xs,ys,b,h=>⟨true,b,by simp[Ab],by simpa using h,by simp⟩
 |k::ks,ks',[],ys,b,h=>by simp[Ab] at h
 |k::ks,ks',_::_,[],b,h=>by simp[Ab] at h
 |k::ks,ks',x::xs,y::ys,b,h=>by
  simp only[cons_append,Ab] at h;split at h
  .rename_i b' c h1 h2;obtain⟨c',d,e1,e2,e3⟩:=Sk ks ks' xs ys c h2;refine⟨b' && c',d,by simp[Ab,h1,e1],by simpa using e2,?_⟩;cases h;rw[e3,Bool.and_assoc]
  .cases h
def Aq{k:CK}(h:Ab [k] [x] [y]=some b):Um k x y=some b:=by
 simp only[Ab] at h
 cases hc:Um k x y with
 |none=>simp[hc] at h
 |some c=>simpa[hc] using h
def gU(h:Um .i x y=some b):∃k a c,x= .int k a/\y= .int k c/\b=decide (a=c):=by
 cases x<;>cases y<;>simp only[Um] at h<;>first|(cases h;done)|split at h
 .rename_i k a k' c e;subst e;cases h;exact⟨_,_,_,rfl,rfl,rfl⟩
 .cases h
def iU(h:Um .s x y=some b):∃a c,x= .string a/\y= .string c/\b=decide (a=c):=by
 cases x<;>cases y<;>simp only[Um] at h<;>first|(cases h;done)|all_goals(cases h;exact⟨_,_,rfl,rfl,rfl⟩)
def jU(h:Um .b x y=some b):∃a c,x= .bool a/\y= .bool c/\b=decide (a=c):=by
 cases x<;>cases y<;>simp only[Um] at h<;>first|(cases h;done)|all_goals(cases h;exact⟨_,_,rfl,rfl,rfl⟩)
section
variable{P:Program}{w:World}
def cO{t k:Nat}(h:(P.info? t).map (·.size)=some k):∃i,P.info? t=some i/\i.size=k:=by
 cases hi:P.info? t with
 |none=>simp[hi] at h
 |some i=>exact⟨i,rfl,by simpa[hi] using h⟩
def kU{t k:Nat}(h:(P.info? t).map (·.size)=some k):(sizeOf t).run P w= .ok k w:=by
 obtain⟨i,h1,h2⟩:=cO h;simp[Go.sizeOf,typeInfo,h1,h2]
def Ii(P:Program)(t:Nat)(xs:List Value)(v:Value):Prop:=match(P.underlying t).map Vi with
 |some true=>v= .agg xs.toArray
 |some false=>xs=[v]
 |none=>False
def Gy{t off:Nat}{pre mid post:List Value}(hu:((P.underlying t).map Vi).isSome=true)(hs:(P.info? t).map (·.size)=some mid.length)(h1:((P.underlying t).map Vi)=some false->mid.length=1)(hp:pre.length=off):
  ∃v,(part t (List.toArray (pre++mid++post)) off).run P w= .ok v w/\Ii P t mid v:=by
 cases hd:P.underlying t with
 |none=>simp[hd] at hu
 |some d=>
  have hsz:=kU (P:=P) (w:=w) hs
  cases ha:Vi d with
  |true=>
   have BZ:(isAgg t).run P w= .ok true w:=by cases d<;>simp[Vi] at ha<;>simp[isAgg,underlying,hd]
   refine⟨.agg mid.toArray,?_,by simp[Ii,hd,ha]⟩;simp only[part,Sem.run_bind,BZ,Result.andThen_ok,if_true,hsz,Sem.run_pure];congr 2;apply Array.toList_inj.1;subst hp
   simp[Sc]
  |false=>
   have BZ:(isAgg t).run P w= .ok false w:=by cases d<;>simp[Vi] at ha<;>simp[isAgg,underlying,hd]
   have hl:=h1 (by simp[hd,ha])
   match mid,hl with
   |[v],_=>
    refine⟨v,?_,by simp[Ii,hd,ha]⟩
    have hg:(List.toArray (pre++[v]++post))[off]? =some v:=by
     subst hp;simp[Sc]
    simp only[part,Sem.run_bind,BZ,Result.andThen_ok,Bool.false_eq_true,if_false];rw[hg];rfl
def EqAt(P:Program)(t f:Nat)(ks:List CK):Prop:=
 ((P.underlying t).map Vi).isSome=true/\((P.underlying t).map Vi=some false->ks.length=1)/\
 ∀(d:Nat) (xs ys:List Value) (x y:Value) (b:Bool) (w:World),f<=d->Ii P t xs x->Ii P t ys y->Ab ks xs ys=some b->(Op.equalIn d t x y).run P w= .ok b w
def Ru(bQ:Nat->Option (List CK))(f:Nat)(Q4:∀t ks,bQ t=some ks->EqAt P t f ks)(d:Nat)(hd:f<=d):∀(fs:List Field) (off:Nat) (ks:List CK),Jm P bQ off fs=some ks->
  ∀(pre pre' mid Vm:List Value) (b:Bool) (w:World),pre.length=off->pre'.length=off->Ab ks mid Vm=some b->(Op.eqFields d (List.toArray (pre++mid)) (List.toArray (pre'++Vm)) fs).run P w= .ok b w
 |[],off,ks,h,pre,pre',mid,Vm,b,w,_,_,hc=>by
  cases h
  match mid,Vm,hc with
  |[],[],hc=>cases hc;simp[Op.eqFields]
 |fd::r,off,ks,h,pre,pre',mid,Vm,b,w,hp,jI,hc=>by
  simp only[Jm] at h;split at h
  .rename_i dO hb hr;split at h
   .rename_i hsz;simp only[Option.map_eq_some_iff] at h;obtain⟨QK,Q9,rfl⟩:=h;simp only[Bool.and_eq_true,bne_iff_ne,beq_iff_eq] at hb;obtain⟨hname,hoff⟩:=hb;obtain⟨c,e,h1,h2,rfl⟩:=Sk dO QK mid Vm b hc;obtain⟨l1,l2⟩:=zq _ _ _ _ h1;obtain⟨q1,q2,q3⟩:=Q4 fd.type dO hr;obtain⟨x,hx,px⟩:=Gy (P:=P) (w:=w) (t:=fd.type) (off:=fd.offset) (pre:=pre) (mid:=mid.take dO.length) (post:=mid.drop dO.length) q1 (by rw[l1];exact hsz) (λh=>by rw[l1];exact q2 h) (by rw[hp,hoff]);obtain⟨y,hy,py⟩:=Gy (P:=P) (w:=w) (t:=fd.type) (off:=fd.offset) (pre:=pre') (mid:=Vm.take dO.length) (post:=Vm.drop dO.length) q1 (by rw[l2];exact hsz) (λh=>by rw[l2];exact q2 h) (by rw[jI,hoff]);rw[Sc,take_append_drop] at hx hy;have heq:=q3 d _ _ x y c w hd px py h1;have ih:=Ru bQ f Q4 d hd r (off+dO.length) QK Q9 (pre++mid.take dO.length) (pre'++Vm.take dO.length) (mid.drop dO.length) (Vm.drop dO.length) e w (by simp only[Eb,l1,hp]) (by simp only[Eb,l2,jI]) h2;rw[Sc,take_append_drop,Sc,take_append_drop] at ih;simp only[Op.eqFields];rw[if_pos hname];simp only[Sem.run_bind,hx,hy,heq,Result.andThen_ok];cases c
    .simp
    .simpa using ih
   .cases h
  .cases h
def Dx{e f d:Nat}{ks:List CK}(h:EqAt P e f ks)(hsz:(P.info? e).map (·.size)=some ks.length)(hd:f<=d):∀(n k:Nat) (pre pre' mid Vm:List Value) (b:Bool) (w:World),pre.length=k*ks.length->pre'.length=k*ks.length->
  Ab (List.replicate n ks).flatten mid Vm=some b->(Op.eqItems d e ks.length (List.toArray (pre++mid)) (List.toArray (pre'++Vm)) (List.range' k n)).run P w= .ok b w
 |0,k,pre,pre',mid,Vm,b,w,_,_,hc=>by
  match mid,Vm,hc with
  |[],[],hc=>cases hc;simp[Op.eqItems]
 |n+1,k,pre,pre',mid,Vm,b,w,hp,jI,hc=>by
  rw[replicate_succ,flatten_cons] at hc;obtain⟨c,c2,h1,h2,rfl⟩:=Sk ks _ mid Vm b hc;obtain⟨l1,l2⟩:=zq _ _ _ _ h1;obtain⟨q1,q2,q3⟩:=h;obtain⟨x,hx,px⟩:=Gy (P:=P) (w:=w) (t:=e) (off:=k*ks.length) (pre:=pre) (mid:=mid.take ks.length) (post:=mid.drop ks.length) q1 (by rw[l1];exact hsz) (λh=>by rw[l1];exact q2 h) hp;obtain⟨y,hy,py⟩:=Gy (P:=P) (w:=w) (t:=e) (off:=k*ks.length) (pre:=pre') (mid:=Vm.take ks.length) (post:=Vm.drop ks.length) q1 (by rw[l2];exact hsz) (λh=>by rw[l2];exact q2 h) jI;rw[Sc,take_append_drop] at hx hy;have heq:=q3 d _ _ x y c w hd px py h1;have ih:=Dx ⟨q1,q2,q3⟩ hsz hd n (k+1) (pre++mid.take ks.length) (pre'++Vm.take ks.length) (mid.drop ks.length) (Vm.drop ks.length) c2 w (by simp only[Eb,l1,hp,Nat.succ_mul]) (by simp only[Eb,l2,jI,Nat.succ_mul]) h2;rw[Sc,take_append_drop,Sc,take_append_drop] at ih;simp only[List.range'_succ,Op.eqItems,Sem.run_bind,hx,hy,heq,Result.andThen_ok];cases c
  .simp
  .simpa using ih
def Hy:∀(f t:Nat) (ks:List CK),Uq P f t=some ks->EqAt P t f ks
 |0,_,_,h=>by cases h
 |f+1,t,ks,h=>by
  simp only[Uq] at h;split at h
  .rename_i k hu;cases h;refine⟨by simp[hu],λ_=>rfl,λd xs ys x y b w hd px py hc=>?_⟩;simp only[Ii,hu,Option.map_some,Vi] at px py;subst px;subst py;obtain⟨m,rfl⟩:∃m,d=m+1:=⟨d - 1,by omega⟩;obtain⟨k',a,c,rfl,rfl,rfl⟩:=gU (Aq hc);rw[run_equalIn_int w m t k' k _ _ hu];congr 1
  .rename_i hu;cases h;refine⟨by simp[hu],λ_=>rfl,λd xs ys x y b w hd px py hc=>?_⟩;simp only[Ii,hu,Option.map_some,Vi] at px py;subst px;subst py;obtain⟨m,rfl⟩:∃m,d=m+1:=⟨d - 1,by omega⟩;obtain⟨a,c,rfl,rfl,rfl⟩:=iU (Aq hc);rw[run_equalIn_string w m t _ _ hu,<-beq_toListBytes,Gw]
  .rename_i hu;cases h;refine⟨by simp[hu],λ_=>rfl,λd xs ys x y b w hd px py hc=>?_⟩;simp only[Ii,hu,Option.map_some,Vi] at px py;subst px;subst py;obtain⟨m,rfl⟩:∃m,d=m+1:=⟨d - 1,by omega⟩;obtain⟨b1,b2,rfl,rfl,rfl⟩:=jU (Aq hc);rw[run_equalIn_bool' w m t _ _ hu];cases b1<;>cases b2<;>rfl
  .rename_i fs hu;split at h
   .cases h
   .rename_i hst;refine⟨by simp[hu],λh=>by simp[hu,Vi] at h,λd xs ys x y b w hd px py hc=>?_⟩;simp only[Ii,hu,Option.map_some,Vi] at px py;subst px;subst py;obtain⟨m,rfl⟩:∃m,d=m+1:=⟨d - 1,by omega⟩;have IU:P.fieldsOf t=fs:=by simp[Program.fieldsOf,hu]
    rw[run_equalIn_struct w m t _ _ (by rw[IU];exact hu) (by simpa using hst),IU];have:=Ru (P:=P) (Uq P f) f (λt ks h=>Hy f t ks h) m (by omega) fs.toList 0 ks h [] [] xs ys b w rfl rfl hc;simpa using this
  .rename_i n e hu;split at h
   .rename_i dO hk;split at h
    .rename_i hsz;cases h;refine⟨by simp[hu],λh=>by simp[hu,Vi] at h,λd xs ys x y b w hd px py hc=>?_⟩;simp only[Ii,hu,Option.map_some,Vi] at px py;subst px;subst py;obtain⟨m,rfl⟩:∃m,d=m+1:=⟨d - 1,by omega⟩;obtain⟨i,hi,hi2⟩:=cO hsz;have hcs:P.cellsOf e=dO.length:=by simp[Program.cellsOf,hi,hi2]
     rw[run_equalIn_array (w:=w) m _ _ hu hi,hcs,range_eq_range'];have:=Dx (P:=P) (Hy f e dO hk) hsz (d:=m) (by omega) n 0 [] [] xs ys b w (by simp) (by simp) hc;simpa using this
    .cases h
   .cases h
  .cases h
end
class TE(P:Program)(t:Nat)(ks:outParam (List CK)):Prop where
 h:Uq P 20 t=some ks:=by kernel_rfl
 g:P.eqGuardType P.depth t=false:=by kernel_rfl
 a:(P.underlying t).map Vi=some true:=by kernel_rfl
section
variable{g:World}{P:Program}{ops:Array Oper}{Q:Exit->Act->World->Prop}{n:Nat}{rest:List Oper}{L:Fm}{H:HH}{q:Bool}
variable{d:Nat}{ty:TypeId}{pos:String}{af:Array Edge}{v:Value}
def WX.aq{x y:Operand}{t t':Nat}{ks:List CK}{xs ys:List Value}{b:Bool}(hx:ev L x=some (.agg xs.toArray))(hy:ev L y=some (.agg ys.toArray))[te:TE P t ks](hc:Ab ks xs ys=some b)(hd:Nat.blt d n=true)
  (k:WX q g P ops Q n rest ((d,.bool b)::L) H):WX q g P ops Q n (⟨some d,.binOp .eql t x y t',ty,pos,af,none⟩::rest) L H:=
 WX.val (λa ha w _=>Wc (vx:= .agg xs.toArray) (vy:= .agg ys.toArray) (ha.ev hx) (ha.ev hy) (run_eqGuard_agg w _ t x y _ _ te.g) (by
  have:=(Hy 20 t ks te.h).2.2 10000 xs ys (.agg xs.toArray) (.agg ys.toArray) b w (by omega) (by simp[Ii,te.a]) (by simp[Ii,te.a]) hc;rw[run_eql_struct,this];rfl)) hd k
def WX.aj{x y:Operand}{t t':Nat}{ks:List CK}{xs ys:List Value}{b:Bool}(hx:ev L x=some (.agg xs.toArray))(hy:ev L y=some (.agg ys.toArray))[te:TE P t ks](hc:Ab ks xs ys=some b)(hd:Nat.blt d n=true)
  (k:WX q g P ops Q n rest ((d,.bool (!b))::L) H):WX q g P ops Q n (⟨some d,.binOp .neq t x y t',ty,pos,af,none⟩::rest) L H:=
 WX.val (λa ha w _=>Wc (vx:= .agg xs.toArray) (vy:= .agg ys.toArray) (ha.ev hx) (ha.ev hy) (run_eqGuard_agg w _ t x y _ _ te.g) (by
  have:=(Hy 20 t ks te.h).2.2 10000 xs ys (.agg xs.toArray) (.agg ys.toArray) b w (by omega) (by simp[Ii,te.a]) (by simp[Ii,te.a]) hc;rw[run_neq_struct,this];rfl)) hd k
def WX.R9{x i:Operand}{t e m len b off:Nat}{j:Int}{ag:Bool}{kd:IntKind}(hx:ev L x=some (.pointer (some ⟨b,off,none⟩)))(hi:ev L i=some (.int kd j))[ht:TU P t (.array len e)][hl:TL P e m ag](h0:0<=j/\j<len)
  (hd:Nat.blt d n=true)(kk:WX q g P ops Q n rest ((d,.pointer (some ⟨b,off+j.toNat*m,none⟩))::L) H):WX q g P ops Q n (⟨some d,.indexAddr t x i,ty,pos,af,none⟩::rest) L H:=
 WX.val (λa ha w hw=>by
  simp[execOp,ha.ev hx,ha.ev hi,Instr.indexAt,asIntOf,ht.run,hl.sizeOf,Instr.sureAddr,h0.1,h0.2,Xc]) hd kk
def Vh{zs vs:List Value}(h:zs.length=vs.length):setAt zs 0 vs=vs:=by simpa using Vf vs zs 0 [] rfl h
def WX.gu{op:Op}{j t:Nat}{want:Bool}(hj:(ops[j]?).bind (·.dst)=some t)(ht:lk L t=some undef)(hd:Nat.blt d n=true)(k:WX q g P ops Q n rest ((d,undef)::L) H):
  WX q g P ops Q n (⟨some d,op,ty,pos,af,some (j,want)⟩::rest) L H:=by
 refine .mk λa w ha hw=>?_;have hd':d<n:=Nat.le_of_ble_eq_true hd;have hy:(yielded ops a.tmps j==some want)=false:=by simp[yielded,hj,ha.get _ _ ht,undef]
 have:=k (a.put (some d) undef) w (ha.put hd' undef) hw;unfold uZ at this⊢;cases q
 .simp only[wpList,Region.wanted,hy,Bool.false_eq_true,if_false] at this⊢;exact this
 .refine wpQuiet_step λK hK=>?_;simp only[Region.wanted,hy,Bool.false_eq_true,if_false];exact hK _ this
def WX.Cb{α:Type}[Qb α]{x:Operand}{t ms k:Nat}{xs:List α}{y:α}{h:Hp}{K:Hp->HH}(hx:ev L x=some (Wn v k ms 0))(hs:Rs xs v h)(hk:xs[k]? =some y)(vG:ms=Qb.sz α)[ht:TL P t ms true][hw:Lu h H K]
  (hd:Nat.blt d n=true)(kk:WX q g P ops Q n rest ((d,.agg (Qb.enc y).toArray)::L) H):WX q g P ops Q n (⟨some d,.load t x,ty,pos,af,none⟩::rest) L H:=
 WX.fo hx hs hk vG (by rw[drop_zero,vG,<-Qb.len y,take_length]) (by rw[vG,Qb.len]) hd kk
def Vx{α:Type}[Qb α]{x:Operand}{t ms k:Nat}{xs:List α}{y:α}{h:Hp}{K:Hp->HH}(hs:Rs xs v h)(hk:xs[k]? =some y)[ht:TL P t ms true][hw:Lu h H K](kk:WX q g P ops Q n rest ((d,.agg (Qb.enc y).toArray)::L) H)(hx:ev L x=some (Wn v k ms 0):=by exact rfl)(vG:ms=Qb.sz α:=by exact rfl)(hd:Nat.blt d n=true:=by exact rfl):
 WX q g P ops Q n (⟨some d,.load t x,ty,pos,af,none⟩::rest) L H:=WX.Cb hx hs hk vG hd kk
-- results in cells: the one that comes first, an aggregate; a temporary behind it
end
end Go.Sl
