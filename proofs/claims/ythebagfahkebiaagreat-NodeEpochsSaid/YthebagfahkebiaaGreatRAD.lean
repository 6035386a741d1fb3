/- Texts of one road. -/
import Derived.Laws.IdiomStrings
import Derived.Laws.BitsAllLaws
import Derived.ScopeJumps
import Derived.Test.YthebagfahkebiaaGreatRAA
set_option linter.all false
set_option maxHeartbeats 8000000
set_option maxRecDepth 20000
namespace Go.Sl
open Go List
section
variable{g:World}{P:Program}{ops:Array Oper}{Q:Exit->Act->World->Prop}{n:Nat}{rest:List Oper}{L:Fm}{H:HH}{q:Bool}
variable{d:Nat}{ty:TypeId}{pos:String}{af:Array Edge}{v v2:Value}
def strOf(xs:List UInt8):ByteArray:=⟨xs.toArray⟩
def qA(s:ByteArray):strOf s.data.toList=s:=by cases s;rfl
theorem CZ(xs:List UInt8):(strOf xs).data.toList=xs:=rfl
def cQ{xs ys:List UInt8}:strOf xs=strOf ys↔xs=ys:=by
 constructor
 .intro h;have:=congrArg (λs:ByteArray=>s.data.toList) h;simpa[strOf] using this
 .rintro rfl;rfl
def WX.strOf{x:Operand}{t t' e:Nat}{xs:List UInt8}{h:Hp}{K:Hp->HH}(hx:ev L x=some v)(hs:Rs xs v h)[hw:Lu h H K][h1:TU P t (.slice e)][h2:TU P e (.int .u8)][h3:TU P t' .string](hd:Nat.blt d n=true)
  (kk:WX q g P ops Q n rest ((d,.string (Sl.strOf xs))::L) H):WX q g P ops Q n (⟨some d,.convert t t' x,ty,pos,af,none⟩::rest) L H:=
 WX.val (λa ha w ho=>by
  obtain⟨p,c,rfl,le,f⟩:=hs
  have key:(convert t t' (.slice p xs.length c)).run P w= .ok (.string ⟨xs.toArray⟩) w:=by
   cases p with
   |none=>
    have hx:xs=[]:=by
     cases xs with
     |nil=>rfl
     |cons y r=>obtain⟨b,off,e,_⟩:=f 0 y rfl;cases e
    subst hx;rw[run_convert_bytes_string w t t' e none _ c h1.h h2.h h3.h];simp[Conv.bytesToString]
    rfl
   |some a=>
    refine run_convert_bytes_back w t t' e a c xs h1.h h2.h h3.h (λj hj=>?_);obtain⟨b,off,e1,e2⟩:=f j _ (Wg hj);cases e1;rw[Xc];have:=e2 0 _ rfl g w (hw.Q0 ho);simpa[Qb.sz] using this
  simp only[execOp,ha.ev hx,Sem.run_bind,key,Result.andThen_ok,Sem.run_pure];rfl) hd kk
section strs
variable{x y:Operand}{t t':Nat}{a b:ByteArray}
def Kp{op:BinOp}{w:World}:(eqGuard op t x y (.string a) (.string b)).run P w= .ok () w:=by
 unfold eqGuard;cases op<;>rfl
def WX.S9(hx:ev L x=some (.string a))(hy:ev L y=some (.string b))(hd:Nat.blt d n=true)[ht:TU P t .string]
  (k:WX q g P ops Q n rest ((d,.bool (decide (a=b)))::L) H):WX q g P ops Q n (⟨some d,.binOp .eql t x y t',ty,pos,af,none⟩::rest) L H:=
 WX.val (λac ha w _=>Wc (ha.ev hx) (ha.ev hy) Kp (by
  rw[binOp_string_eql,Sem.run_pure,<-beq_toListBytes,Gw])) hd k
def WX.T9(hx:ev L x=some (.string a))(hy:ev L y=some (.string b))(hd:Nat.blt d n=true)[ht:TU P t .string]
  (k:WX q g P ops Q n rest ((d,.bool (decide (¬a=b)))::L) H):WX q g P ops Q n (⟨some d,.binOp .neq t x y t',ty,pos,af,none⟩::rest) L H:=
 WX.val (λac ha w _=>Wc (ha.ev hx) (ha.ev hy) Kp (by
  rw[binOp_string_neq,Sem.run_pure,<-beq_toListBytes,Gw];simp)) hd k
end strs
-- slices against nil
section R4
variable{x y:Operand}{t t' e:Nat}{p:Option Addr}{l c:Nat}
def HA{op:BinOp}{w:World}{u:Value}:(eqGuard op t x y (.slice p l c) (.slice none 0 0)).run P w= .ok () w:=by
 unfold eqGuard;cases op<;>rfl
def IA{w:World}(k:Nat)[ht:TU P t (.slice e)]:(Op.equalIn (k+1) t (.slice p l c) (.slice none 0 0)).run P w= .ok p.isNone w:=by
 cases p<;>simp[Op.equalIn,ht.run]
def WX.uO(hx:ev L x=some (.slice p l c))(hy:ev L y=some (.slice none 0 0))(hd:Nat.blt d n=true)[ht:TU P t (.slice e)]
  (k:WX q g P ops Q n rest ((d,.bool p.isNone)::L) H):WX q g P ops Q n (⟨some d,.binOp .eql t x y t',ty,pos,af,none⟩::rest) L H:=
 WX.val (λac ha w _=>Wc (ha.ev hx) (ha.ev hy) (HA (u:=undef)) (by
  show((do pure (.bool (<-Op.equalIn 10000 t (.slice p l c) (.slice none 0 0))):Sem Value)).run P w=_;rw[Sem.run_bind,IA (t:=t) (e:=e) 9999];rfl)) hd k
end R4
-- slices that are cut
def Ui(v:Value)(m lo hi mx:Nat):Value:=match v with
 | .slice a _ _=> .slice (if mx=lo then a else a.map (·.add (lo*m))) (hi - lo) (mx - lo)
 |_=>v
def EX:Value->Nat
 | .slice _ _ c=>c
 |_=>0
theorem au(a:Option Addr)(l c m lo hi mx:Nat):Ui (.slice a l c) m lo hi mx= .slice (if mx=lo then a else a.map (·.add (lo*m))) (hi - lo) (mx - lo):=rfl
section cut
variable{x i j k3:Operand}{t e m lo hi mx:Nat}{ag:Bool}{kd aI kd3:IntKind}{p:Option Addr}{l c:Nat}
def wj{w:World}{kd:IntKind}{k y:Nat}{code:BoundsCode}(h:k<=y):(Instr.sliceBound (.int kd (k:Int)) y code).run P w= .ok k w:=by
 have:(0:Int)<=(k:Int)/\(k:Int)<=(y:Int):=⟨by omega,by omega⟩;simp[Instr.sliceBound,asIntOf,h]
def WX.EJ(hx:ev L x=some (.slice p l c))(hi':ev L i=some (.int kd (lo:Int)))(hj':ev L j=some (.int aI (hi:Int)))(h1:lo<=hi)(h2:hi<=c)[ht:TU P t (.slice e)][hl:TL P e m ag]
  (hd:Nat.blt d n=true)(kk:WX q g P ops Q n rest ((d,Ui (.slice p l c) m lo hi c)::L) H):WX q g P ops Q n (⟨some d,.slice t x (some i) (some j) none,ty,pos,af,none⟩::rest) L H:=
 WX.val (λa' ha w hw=>by
  simp[execOp,ha.ev hx,ha.ev hi',ha.ev hj',Instr.sliceAt,Instr.slice,Instr.sliceBounds,wj h1,wj h2,ht.run,hl.sizeOf,Ui]) hd kk
def WX.C8(hx:ev L x=some (.slice p l c))(hi':ev L i=some (.int kd (lo:Int)))(hj':ev L j=some (.int aI (hi:Int)))(hk':ev L k3=some (.int kd3 (mx:Int)))(h1:lo<=hi)(h2:hi<=mx)(h3:mx<=c)[ht:TU P t (.slice e)][hl:TL P e m ag]
  (hd:Nat.blt d n=true)(kk:WX q g P ops Q n rest ((d,Ui (.slice p l c) m lo hi mx)::L) H):WX q g P ops Q n (⟨some d,.slice t x (some i) (some j) (some k3),ty,pos,af,none⟩::rest) L H:=
 WX.val (λa' ha w hw=>by
  simp[execOp,ha.ev hx,ha.ev hi',ha.ev hj',ha.ev hk',Instr.sliceAt,Instr.slice,Instr.sliceBounds,wj h1,wj h2,wj h3,ht.run,hl.sizeOf,Ui]) hd kk
def WX.vi(hx:ev L x=some (.slice p l c))(hi':ev L i=some (.int kd (lo:Int)))(h1:lo<=l)(h2:l<=c)[ht:TU P t (.slice e)][hl:TL P e m ag]
  (hd:Nat.blt d n=true)(kk:WX q g P ops Q n rest ((d,Ui (.slice p l c) m lo l c)::L) H):WX q g P ops Q n (⟨some d,.slice t x (some i) none none,ty,pos,af,none⟩::rest) L H:=
 WX.val (λa' ha w hw=>by
  simp[execOp,ha.ev hx,ha.ev hi',Instr.sliceAt,Instr.slice,Instr.sliceBounds,wj h1,ht.run,hl.sizeOf,Ui]) hd kk
end cut
section DZ
variable{α:Type}[E:Qb α]{xs ys:List α}{y:α}{T k m:Nat}{h:Hp}
def Rs.cut(hs:Rs xs v h)(hm:m=Qb.sz α){lo hi mx:Nat}(h1:lo<=hi)(h2:hi<=xs.length)(h3:hi<=mx):Rs ((xs.drop lo).take (hi - lo)) (Ui v m lo hi mx) h:=by
 subst hm;obtain⟨a,c,rfl,le,f⟩:=hs;have hl:((xs.drop lo).take (hi - lo)).length=hi - lo:=by rw[Oe,length_drop];omega
 refine⟨_,_,by rw[au,hl],by omega,λk y hk=>?_⟩;have hlt:=(List.getElem?_eq_some_iff.1 hk).1;rw[hl] at hlt;rw[List.getElem?_take,if_pos hlt,List.getElem?_drop] at hk;obtain⟨b,off,e1,e2⟩:=f (lo+k) y hk;refine⟨b,off+lo*Qb.sz α,?_,λj u hu g w ho=>?_⟩
 .rw[if_neg (by omega),e1];simp[Xc]
 .rw[<-e2 j u hu g w ho];congr 2;rw[Nat.add_mul];omega
def Rs.from(hs:Rs xs v h)(hm:m=Qb.sz α){lo:Nat}(h1:lo<=xs.length):Rs (xs.drop lo) (Ui v m lo xs.length (EX v)) h:=by
 obtain⟨a,c,e,le,f⟩:=id hs;have:=hs.cut hm h1 (Nat.le_refl _) (mx:=EX v) (by rw[e];exact le);rwa [take_of_length_le (by rw[length_drop];omega)] at this
def OH{t t2 bytes:Nat}{ag:Bool}{v2:Value}{ty:TypeId}{d2:TypeDesc}[ht:TU P t (.slice T)][ht2:TU P t2 d2](Jd:∀k,d2≠ .int k)
  [hl:TL P T m ag](hm:m=Qb.sz α){b cap:Nat}{sp:List Value}{fr:Nat×Nat}(h1:xs.length<=cap)(h2:sp.length=(cap - xs.length)*Qb.sz α)(h3:Pu fr (cap*Qb.sz α)){w:World}
  (hh:w.heap[b]? =some (.cells (List.toArray (Jb xs++sp)) T fr))(s1:Src P (Qb.sz α) v2 ys.length (Jb ys) w)(hfit:xs.length+ys.length<=cap):
  ∃w' o,(Builtin.append_ #[t,t2] ty #[.slice (some ⟨b,0,none⟩) xs.length cap,v2]).run P w= .ok (.slice (some ⟨b,0,none⟩) (xs.length+ys.length) cap) w'/\Ht w w'/\w'.heap[b]? =some o/\(∀k,k≠b->w'.heap[k]? =w.heap[k]?)/\
   o= .cells (List.toArray (Jb (xs++ys)++sp.drop (ys.length*Qb.sz α))) T fr:=by
 subst hm;have hlen:(Jb xs++sp).length=cap*Qb.sz α:=by rw[Eb,Ic,h2,<-Nat.add_mul];congr 1;omega
 have aU:xs.length*Qb.sz α+ys.length*Qb.sz α<=cap*Qb.sz α:=by rw[<-Nat.add_mul];exact Nat.mul_le_mul_right _ hfit
 obtain⟨w',e1,e2,e3,e4⟩:=ug (P:=P) (Jb ys) (xs.length*Qb.sz α) 0 _ w hh (by rw[hlen];exact h3) (by rw[hlen,Ic];simpa using aU) (tK ys);have hints:(match(generalizing:=false) d2 with| .int _=>true|_=>false)=false:=by cases d2<;>first|rfl|exact absurd rfl (Jd _)
 refine⟨w',_,?_,e2,e3,e4,?_⟩
 .simp[Builtin.append_,ht.run,ht2.run,hl.sizeOf,hints,s1.len,s1.cells,hfit,Xc,e1]
 .congr 2;rw[Nat.add_zero,<-Ic xs,show(Jb xs).length=(Jb xs).length+0 from rfl,Yc,Hg,Sc];congr 1;have hsp:sp=sp.take (ys.length*Qb.sz α)++sp.drop (ys.length*Qb.sz α):=(take_append_drop _ _).symm;have bU:ys.length*Qb.sz α<=sp.length:=by rw[h2];exact Nat.mul_le_mul_right _ (by omega)
  conv=>lhs;rw[hsp]
  rw[yc _ _ _ _ (by rw[Ic,Oe,Nat.min_eq_left bU];omega)];congr 1;have:=Vf (Jb ys) (sp.take (ys.length*Qb.sz α)) 0 [] rfl (by rw[Oe,Nat.min_eq_left bU,Ic]);simpa using this
def WX.F3{x z:Operand}{t t2 b cap nx:Nat}{ag:Bool}{e2:Nat}{cs sp:List Value}{fr:Nat×Nat}{K:Obj->HH}(hx:ev L x=some (.slice (some ⟨b,0,none⟩) nx cap))(hz:ev L z=some v2)
  [hf:Tm b (.cells (List.toArray cs) T fr) H K](Sa:Rs ys v2 [(b,.cells (List.toArray cs) T fr)])[ht:TU P t (.slice T)][ht2:TU P t2 (.slice e2)][hl:TL P T m ag](hm:m=Qb.sz α)(hn:nx=xs.length)(hcs:cs=Jb xs++sp)
  (h1:xs.length<=cap)(h2:sp.length=(cap - xs.length)*Qb.sz α)(h3:Pu fr (cap*Qb.sz α))(hfit:xs.length+ys.length<=cap)(hd:Nat.blt d n=true)
  (kk:WX false g P ops Q n rest ((d,.slice (some ⟨b,0,none⟩) (xs.length+ys.length) cap)::L) (K (.cells (List.toArray (Jb (xs++ys)++sp.drop (ys.length*Qb.sz α))) T fr))):
  WX false g P ops Q n (⟨some d,.call ⟨.builtin .append, #[x,z], #[t,t2]⟩,ty,pos,af,none⟩::rest) L H:=by
 subst hn;subst hcs;refine WX.xZ hd λa w ha ho=>?_;have hh:=hf.heap ho
 have s1:Src P (Qb.sz α) v2 ys.length (Jb ys) w:=Sa.src (g:=w) ⟨Ht.refl w,by simp,λb' o hm=>by
  rw[mem_singleton] at hm;cases hm;exact hh⟩
 obtain⟨w',o,hr,O4,e1,e2,rfl⟩:=OH (ty:=ty) (t:=t) (t2:=t2) (bytes:=0) (by intro k hk;cases hk) hm h1 h2 h3 hh s1 hfit;exact⟨_,w',_,Lm (args:=[x,z]) (vs:=[.slice (some ⟨b,0,none⟩) xs.length cap,v2]) (by simp[ha.ev hx,ha.ev hz]) (by simp[builtin,hr]),hf.set ho O4 e1 e2,kk⟩
def eO{zs:List Value}(h1:Pd zs=true):∀k,Pd (List.replicate k zs).flatten=true
 |0=>rfl
 |k+1=>by
  simp only[replicate_succ,flatten_cons,Pd,all_append,Bool.and_eq_true];exact⟨h1,eO h1 k⟩
def WX.jL{x:Operand}{t b off len c:Nat}{zs:List Value}{cs:List Value}{fr:Nat×Nat}{K:Obj->HH}(hx:ev L x=some (.slice (some ⟨b,off,none⟩) len c))[ht:TU P t (.slice T)][hz:TZ P T zs]
  [hf:Tm b (.cells (List.toArray cs) T fr) H K](h3:Pu fr cs.length)(hp:0<len)(hb:off+len*zs.length<=cs.length)(h1:Pd zs=true)
  (kk:WX false g P ops Q n rest L (K (.cells (List.toArray (setAt cs off (List.replicate len zs).flatten)) T fr))):
  WX false g P ops Q n (⟨none,.call ⟨.builtin .clear, #[x], #[t]⟩,ty,pos,af,none⟩::rest) L H:=
 WX.F4 (λa w ha ho=>by
  obtain⟨z,U9,L6⟩:=hz.run (w:=w);have hone:=eO h1 len;have hlen:(List.replicate len zs).flatten.length=len*zs.length:=by simp
  obtain⟨w',e1,e2,e3,e4⟩:=ug (P:=P) (List.replicate len zs).flatten off 0 cs w (hf.heap ho) h3 (by rw[hlen];omega) hone;refine⟨.tuple #[],w',_,Lm (args:=[x]) (vs:=[.slice (some ⟨b,off,none⟩) len c]) (by simp[ha.ev hx]) ?_,hf.set ho e2 (by simpa using e3) e4,kk⟩;obtain⟨l',rfl⟩:∃l',len=l'+1:=⟨len - 1,by omega⟩
  have M6:(Builtin.zeroCells z.cells (l'+1)).toList=(List.replicate (l'+1) zs).flatten:=by
   by_cases h0:zs.length=0
   .have:zs=[]:=length_eq_zero_iff.1 h0;subst this;simp[Builtin.zeroCells,L6]
   .have:=xq zs zs.length rfl (by omega) (l'+1);rw[<-this];simp[Builtin.zeroCells,L6]
  simp[builtin,Builtin.clear_,ht.run,U9,M6,e1])
end DZ
end
section
variable{g:World}{P:Program}{ops:Array Oper}{Q:Exit->Act->World->Prop}{n:Nat}{rest:List Oper}{L:Fm}{H:HH}{q:Bool}
variable{d:Nat}{ty:TypeId}{pos:String}{af:Array Edge}{v v2:Value}
def whole{cs:List Value}{m:Nat}(h:cs.length=m):(cs.drop 0).take m=cs:=by subst h;simp
def WX.Pe{os:List Oper}(h:WX q g P ops Q n os L ([]::H)):WX q g P ops Q n os L H:=WX.flat (H':=[]::H) rfl h
def Ct.pack{f:FuncId}{args:List Value}{pre pre':HH}{post post':Value->HH->Prop}(h:Ct P f args pre post)(e:pre'.flatten=pre.flatten)(k:∀v H',post v H'->∃Vp,Vp.flatten=H'.flatten/\post' v Vp):Ct P f args pre' post':=
 ⟨λg R w hw=>(h.calls g R w (by simpa[e] using hw)).mono λ_ _ ⟨v,H',he,p,o⟩=>by
  obtain⟨Vp,e2,p2⟩:=k v H' p;exact⟨v,Vp,he,p2,by simpa[e2] using o⟩⟩
def Ct.yI{f:FuncId}{args:List Value}{pre pre':HH}{post post':Value->HH->Prop}(h:Ct P f args pre post)(e:pre'.flatten=pre.flatten)(k:∀v H',post v H'->∃Vp X,(Vp.flatten++X).Perm H'.flatten/\post' v Vp):Ct P f args pre' post':=
 ⟨λg R w hw=>(h.calls g R w (by simpa[e] using hw)).mono λen w' ⟨v,H',he,p,o⟩=>by
  obtain⟨Vp,X,e2,p2⟩:=k v H' p;refine⟨v,Vp,he,p2,?_⟩;have o1:on g (H'.flatten++R) w':=by simpa using o
  have o2:on g (Vp.flatten++X++R) w':=o1.perm (e2.symm.append_right R)
  have o3:on g (Vp.flatten++R++X) w':=o2.perm (by
   rw[Sc,Sc];exact List.Perm.append_left _ perm_append_comm)
  simpa using o3.left⟩
def Ct.frame{f:FuncId}{args:List Value}{pre F:HH}{post post':Value->HH->Prop}(h:Ct P f args pre post)(k:∀v H',post v H'->post' v (H'++F)):Ct P f args (pre++F) post':=
 ⟨λg R w hw=>(h.calls g (F.flatten++R) w (by simpa using hw)).mono λ_ _ ⟨v,H',he,p,o⟩=>⟨v,H'++F,he,k v H' p,by simpa using o⟩⟩
def Ct.ext{f:FuncId}{args:List Value}{x r:Hp}{u:Value}(h:Ct P f args [x] (λv H'=>v=u/\H'=[x])):Ct P f args [x++r] (λv H'=>v=u/\H'=[x++r]):=
 (Ct.frame (F:=[r]) (post':=λv H'=>v=u/\H'=[x,r]) h (λv H' p=>⟨p.1,by rw[p.2];rfl⟩)).pack (by simp) (λv H' p=>⟨[x++r],by rw[p.2];simp,p.1,rfl⟩)
def ia.sh{α:Type}[Qb α]{T:Nat}{xs:List α}{v:Value}{h:Hp}(hs:ia T xs v h):∃p n c,v= .slice p n c:=let⟨p,c,e⟩:=hs.len;⟨p,_,c,e⟩
-- results
inductive wM(P:Program)(L:Fm)(H:HH):List ResultVar->List Value->Prop
 |nil:wM P L H [] []
 |tmp {t:Nat} {v:Value} {rs:List ResultVar} {vs:List Value} (h:lk L t=some v) (r:wM P L H rs vs):wM P L H (.tmp t::rs) (v::vs)
 |Va {c b T T' m:Nat} {fr:Nat×Nat} {us:List Value} {K:Obj->HH} {rs:List ResultVar} {vs:List Value} (hl:lk L c=some (.pointer (some ⟨b,0,none⟩))) [ht:TL P T m true] [hf:Tm b (.cells (List.toArray us) T' fr) H K]
   (hm:us.length=m) (r:wM P L H rs vs):wM P L H (.cell c T::rs) (.agg us.toArray::vs)
 |S4 {c b T T':Nat} {fr:Nat×Nat} {u:Value} {K:Obj->HH} {rs:List ResultVar} {vs:List Value} (hl:lk L c=some (.pointer (some ⟨b,0,none⟩))) [ht:TL P T 1 false] [hf:Tm b (.cells (List.toArray [u]) T' fr) H K]
   (r:wM P L H rs vs):wM P L H (.cell c T::rs) (u::vs)
def Su(tmps:Array Value):ResultVar->Sem Value
 | .tmp t=>pure (tmps.getD t undef)
 | .cell a t=>do loadVar t (<-asAddr (tmps.getD a undef))
def wM.run{rs:List ResultVar}{vs:List Value}{a:Act}{w:World}(h:wM P L H rs vs)(ha:Fr n L a)(hw:on g H.flatten w):(rs.mapM (Su a.tmps)).run P w= .ok vs w:=by
 induction h with
 |nil=>simp
 |tmp h r ih=>
  rename_i t v rs vs;have hc:(Su a.tmps (.tmp t)).run P w= .ok v w:=by simp only[Su,Sem.run_pure,ha.getD h]
  simp only[mapM_cons,Sem.run_bind,Sem.run_pure,Result.andThen_ok,ih,hc]
 |Va hl hm r ih=>
  rename_i c b T T' m fr us K rs vs ht hf
  have h1:(loadVar T ⟨b,0,none⟩).run P w= .ok (.agg us.toArray) w:=by
   subst hm;have:=run_loadCells_list (P:=P) w ⟨b,0,none⟩ us (λj v e=>by rw[Xc];rw[Nat.zero_add,yg (hf.heap hw)];exact e);simp[loadVar,ht.isAgg,ht.sizeOf,this]
  have hc:(Su a.tmps (.cell c T)).run P w= .ok (.agg us.toArray) w:=by simp only[Su,ha.getD hl,asAddr,Sem.run_bind,Sem.run_pure,Result.andThen_ok,h1]
  simp only[mapM_cons,Sem.run_bind,Sem.run_pure,Result.andThen_ok,ih,hc]
 |S4 hl r ih=>
  rename_i c b T T' fr u K rs vs ht hf
  have h1:(loadVar T ⟨b,0,none⟩).run P w= .ok u w:=by
   have:w.cell? ⟨b,0,none⟩=some u:=by rw[yg (hf.heap hw)];rfl
   simp[loadVar,ht.isAgg,this]
  have hc:(Su a.tmps (.cell c T)).run P w= .ok u w:=by simp only[Su,ha.getD hl,asAddr,Sem.run_bind,Sem.run_pure,Result.andThen_ok,h1]
  simp only[mapM_cons,Sem.run_bind,Sem.run_pure,Result.andThen_ok,ih,hc]
def wM.results{fn:Func}{rs:List ResultVar}{vs:List Value}{a:Act}{w:World}(hr:fn.results=rs.toArray)(h:wM P L H rs vs)(ha:Fr n L a)(hw:on g H.flatten w):
  (Go.results fn a.tmps).run P w= .ok (if h:vs.toArray.size=1 then vs.toArray[0] else .tuple vs.toArray) w:=by
 have:=h.run ha hw
 have e:(rs.toArray.mapM (Su a.tmps)).run P w= .ok vs.toArray w:=by
  rw[mapM_toArray];simp[this]
 unfold Go.results;rw[hr];show((do let vs<-rs.toArray.mapM (Su a.tmps);pure (if h:vs.size=1 then vs[0] else .tuple vs)):Sem Value).run P w=_;rw[Sem.run_bind,e];simp
def D.Bg{fn:Func}{post:Value->HH->Prop}{R:Hp}{rs:List ResultVar}{vs:List Value}(H' r:HH)(hr:fn.results=rs.toArray)(h:wM P L H rs vs)(h1:Nat.beq vs.length 1=false)(hp:post (.tuple vs.toArray) H')[k:Oc (H'++[R]) H r]:
  D g (bodyPost P fn (Lr g post R)) .ret n L H:=
 .mk λa w ha hw=>⟨ha.defers,.tuple vs.toArray,by
  rw[wM.results hr h ha hw,dif_neg];simpa using Nat.ne_of_beq_eq_false h1,⟨_,H',rfl,hp,(Ia.qa k).on hw⟩⟩
def D.Gc{fn:Func}{post:Value->HH->Prop}{R:Hp}{rs:List ResultVar}{v:Value}(H' r:HH)(hr:fn.results=rs.toArray)(h:wM P L H rs [v])(hp:post v H')[k:Oc (H'++[R]) H r]:
  D g (bodyPost P fn (Lr g post R)) .ret n L H:=
 .mk λa w ha hw=>⟨ha.defers,v,by
  rw[wM.results hr h ha hw];rfl,⟨_,H',rfl,hp,(Ia.qa k).on hw⟩⟩
-- []byte("..") of a constant: a mark behind the block
def WX.A3{x y:Operand}{t t':Nat}{b:Bool}(hx:ev L x=some (.bool b))(hy:ev L y=some (.bool b))(hd:Nat.blt d n=true)[ht:TU P t .bool]
  (k:WX q g P ops Q n rest ((d,.bool false)::L) H):WX q g P ops Q n (⟨some d,.binOp .neq t x y t',ty,pos,af,none⟩::rest) L H:=
 WX.D9 hx hy hd (by simpa using k)
-- bytes
section bytes
variable{x y:Operand}{t t' a b:Nat}
def WX.O8(hx:ev L x=some (.int .u8 (a:Int)))(hy:ev L y=some (.int .u8 (b:Int)))(ha:a<256)(hb:b<256)(hd:Nat.blt d n=true)
  (k:WX q g P ops Q n rest ((d,.int .u8 ((a &&& b:Nat):Int))::L) H):WX q g P ops Q n (⟨some d,.binOp .and t x y t',ty,pos,af,none⟩::rest) L H:=
 WX.val (λac hac w _=>Wc (hac.ev hx) (hac.ev hy) qb (by
  have:=u8_and_nat a b ha hb;simp only[binOp,ne_eq,not_true_eq_false,if_false,intBits_and,this,Sem.run_pure])) hd k
def WX.Po{kd aI:IntKind}{m:Nat}(hx:ev L x=some (.int kd (a:Int)))(hy:ev L y=some (.int aI (m:Int)))(hm:m<=kd.bits)(hd:Nat.blt d n=true)
  (k:WX q g P ops Q n rest ((d,.int kd ((a/2^m:Nat):Int))::L) H):WX q g P ops Q n (⟨some d,.binOp .shr t x y t',ty,pos,af,none⟩::rest) L H:=
 WX.val (λac hac w _=>Wc (hac.ev hx) (hac.ev hy) (by unfold eqGuard;rfl) (by
  have h1:Min.min ((m:Int).toNat) kd.bits=m:=by rw[Int.toNat_natCast];exact Nat.min_eq_left hm
  have h2:((a:Int).fdiv (2^m))=((a/2^m:Nat):Int):=by
   rw[Int.fdiv_eq_ediv_of_nonneg _ (by exact Int.le_of_lt (Int.pow_pos (by decide)))]
   norm_cast
  simp only[binOp,Op.shift];rw[if_neg (by omega),h1,h2];rfl)) hd k
end bytes
end
variable{A B:Prop}{g:World}{Q:Exit->Act->World->Prop}{n m:Nat}{L:Fm}{H:HH}{α:Type}{p:α->Prop}{Li:α->Fm}{Hi:α->HH}{μ:α->Nat}
class JA(G:Prop)(S:outParam Prop):Prop where
 h:S->G
def go{G S:Prop}[i:JA G S](h:S):G:=i.h h
section
variable{g:World}{P:Program}{ops:Array Oper}{Q:Exit->Act->World->Prop}{n:Nat}{rest os tail:List Oper}{L:Fm}{H Hc:HH}{q:Bool}{z:List (Bool×Oper)}{o:Oper}
variable{d:Nat}{ty:TypeId}{pos:String}{af:Array Edge}{v:Value}
instance{x y:Code}:JA (W g P (.seq x y) Q n L H) (W g P x (Exit.then (y.wp P Q) Q) n L H):=⟨W.seq⟩
instance{id:Nat}{l:List Oper}:JA (W g P (.region id l.toArray false) Q n L H) (WX false g P l.toArray Q n l L H):=⟨W.region⟩
instance:JA (WX q g P ops Q n [] L H) (D g Q .normal n L H):=⟨WX.nil⟩
instance{y:Code}:JA (D g (Exit.then (y.wp P Q) Q) .normal n L H) (W g P y Q n L H):=⟨D.seq⟩
instance{id:Nat}{c:Code}:JA (W g P (.block id c) Q n L H) (W g P c (Exit.inBlock id Q) n L H):=⟨W.block⟩
instance{id:Nat}:JA (D g (Exit.inBlock id Q) .normal n L H) (D g Q .normal n L H):=⟨D.blk⟩
instance:JA (W g P .skip Q n L H) (D g Q .normal n L H):=⟨W.skip⟩
instance{id:Nat}:JA (W g P (.exit id) Q n L H) (D g Q (.exit id) n L H):=⟨W.exit⟩
instance:JA (W g P .ret Q n L H) (D g Q .ret n L H):=⟨W.ret⟩
instance:JA (D g (P4 g P ops Q Hc tail z H) .normal n L Hc) (WM g P ops Q n Hc tail z L H):=⟨WM.lf⟩
instance{r:HH}[k:Oc Hc H r]:JA (D g (UU g P ops Q Hc tail z) .normal n L H) (WM g P ops Q n Hc tail z L H):=⟨WM.back⟩
instance{id:Nat}:JA (D g (Exit.inBlock id Q) (.exit id) n L H) (D g Q .normal n L H):=⟨D.A9⟩
instance{N:Act->World->Prop}{id:Nat}:JA (D g (Exit.then N Q) (.exit id) n L H) (D g Q (.exit id) n L H):=⟨D.vZ⟩
instance{N:Act->World->Prop}:JA (D g (Exit.then N Q) .ret n L H) (D g Q .ret n L H):=⟨D.wZ⟩
instance{id:Nat}:JA (D g (Exit.inBlock id Q) .ret n L H) (D g Q .ret n L H):=⟨D.y9⟩
def zY{id id':Nat}(h:D g Q (.exit id') n L H)(ne:Nat.beq id' id=false:=by exact rfl):D g (Exit.inBlock id Q) (.exit id') n L H:=D.B9 ne h
def mN(h:WX false g P ops Q n tail L H):WM g P ops Q n Hc tail [] L H:=WM.nil h
def mU{r:HH}[nv:NV P o][k:Oc Hc H r](h:WX true g P ops (P4 g P ops Q Hc tail z H) n [o] L Hc):WM g P ops Q n Hc tail ((true,o)::z) L H:=WM.un h
def mA[nd:ND P o](h:WX false g P ops (UU g P ops Q Hc tail z) n [o] L H):WM g P ops Q n Hc tail ((false,o)::z) L H:=WM.an h
-- conditions
section conds
variable{c:Operand}{x y:Code}{p:Prop}[Decidable p]
def cT(h:W g P x Q n L H)(hc:ev L c=some (.bool true):=by exact rfl):W g P (.cond c x y) Q n L H:=W.yX hc h
def cF(h:W g P y Q n L H)(hc:ev L c=some (.bool false):=by exact rfl):W g P (.cond c x y) Q n L H:=W.zX hc h
def cP(h:W g P x Q n L H)(hc:ev L c=some (.bool (decide p)):=by exact rfl)(hp:p:=by first|assumption|omega):W g P (.cond c x y) Q n L H:=W.D4 hc hp h
def cN(h:W g P y Q n L H)(hc:ev L c=some (.bool (decide p)):=by exact rfl)(hp: ¬p:=by first|assumption|omega):W g P (.cond c x y) Q n L H:=W.E4 hc hp h
end conds
-- guards
section guards
variable{dst:Option Tmp}{op:Op}{j t:Nat}{want b:Bool}{p:Prop}[Decidable p]
def gy(k:WX q g P ops Q n (⟨dst,op,ty,pos,af,none⟩::rest) L H)(hj:(ops[j]?).bind (·.dst)=some t:=by exact rfl)(ht:lk L t=some (.bool want):=by exact rfl):
  WX q g P ops Q n (⟨dst,op,ty,pos,af,some (j,want)⟩::rest) L H:=WX.gy hj ht k
def gn(k:WX q g P ops Q n rest ((d,undef)::L) H)(hj:(ops[j]?).bind (·.dst)=some t:=by exact rfl)(ht:lk L t=some (.bool b):=by exact rfl)(hne:(b==want)=false:=by exact rfl)(hd:Nat.blt d n=true:=by exact rfl):
  WX q g P ops Q n (⟨some d,op,ty,pos,af,some (j,want)⟩::rest) L H:=WX.gn hj ht hne hd k
def gu(k:WX q g P ops Q n rest ((d,undef)::L) H)(hj:(ops[j]?).bind (·.dst)=some t:=by exact rfl)(ht:lk L t=some undef:=by exact rfl)(hd:Nat.blt d n=true:=by exact rfl):
  WX q g P ops Q n (⟨some d,op,ty,pos,af,some (j,want)⟩::rest) L H:=WX.gu hj ht hd k
def gT(k:WX q g P ops Q n (⟨dst,op,ty,pos,af,some (j,want)⟩::rest) ((t,.bool true)::L) H)(hj:(ops[j]?).bind (·.dst)=some t:=by exact rfl)(ht:lk L t=some (.bool (decide p)):=by exact rfl)
  (hp:p:=by first|assumption|omega):WX q g P ops Q n (⟨dst,op,ty,pos,af,some (j,want)⟩::rest) L H:=WX.gT hj ht hp k
def gF(k:WX q g P ops Q n (⟨dst,op,ty,pos,af,some (j,want)⟩::rest) ((t,.bool false)::L) H)(hj:(ops[j]?).bind (·.dst)=some t:=by exact rfl)(ht:lk L t=some (.bool (decide p)):=by exact rfl)
  (hp: ¬p:=by first|assumption|omega):WX q g P ops Q n (⟨dst,op,ty,pos,af,some (j,want)⟩::rest) L H:=WX.gF hj ht hp k
end guards
-- values
section vals
variable{x y c:Operand}{t t':Nat}
def mv(k:WX q g P ops Q n rest ((d,v)::L) H)(hx:ev L x=some v:=by exact rfl)(hd:Nat.blt d n=true:=by exact rfl):WX q g P ops Q n (⟨some d,.move x,ty,pos,af,none⟩::rest) L H:=WX.move hx hd k
def T4(k:WX q g P ops Q n rest ((d,v)::L) H)(hx:ev L x=some v:=by exact rfl)(hd:Nat.blt d n=true:=by exact rfl):WX q g P ops Q n (⟨some d,.assign x,ty,pos,af,none⟩::rest) L H:=WX.assign hx hd k
def pT(k:WX q g P ops Q n rest ((d,v)::L) H)(hc:ev L c=some (.bool true):=by exact rfl)(hx:ev L x=some v:=by exact rfl)(hd:Nat.blt d n=true:=by exact rfl):WX q g P ops Q n (⟨some d,.pick c x y,ty,pos,af,none⟩::rest) L H:=WX.G4 hc hx hd k
def pF(k:WX q g P ops Q n rest ((d,v)::L) H)(hc:ev L c=some (.bool false):=by exact rfl)(hx:ev L y=some v:=by exact rfl)(hd:Nat.blt d n=true:=by exact rfl):WX q g P ops Q n (⟨some d,.pick c x y,ty,pos,af,none⟩::rest) L H:=WX.I4 hc hx hd k
def nc{p:Addr}(k:WX q g P ops Q n rest ((d,.pointer (some p))::L) H)(hx:ev L x=some (.pointer (some p)):=by exact rfl)(hd:Nat.blt d n=true:=by exact rfl):WX q g P ops Q n (⟨some d,.nilCheck x,ty,pos,af,none⟩::rest) L H:=WX.nilCheck hx hd k
def fa{f b i off:Nat}[h:TF P t f off](k:WX q g P ops Q n rest ((d,.pointer (some ⟨b,i+off,none⟩))::L) H)(hx:ev L x=some (.pointer (some ⟨b,i,none⟩)):=by exact rfl)(hd:Nat.blt d n=true:=by exact rfl):
  WX q g P ops Q n (⟨some d,.fieldAddr t x f,ty,pos,af,none⟩::rest) L H:=WX.fieldAddr hx hd k
class xM(bo:BinOp)(i j:Int)(v:outParam Value):Prop where
 h:∀{g:World} {P:Program} {ops:Array Oper} {Q:Exit->Act->World->Prop} {n:Nat} {rest:List Oper} {L:Fm} {H:HH} {q:Bool} {d:Nat} {ty:TypeId} {pos:String} {af:Array Edge} {x y:Operand} {t t':Nat} {kd:IntKind},
  ev L x=some (.int kd i)->ev L y=some (.int kd j)->Nat.blt d n=true->WX q g P ops Q n rest ((d,v)::L) H->WX q g P ops Q n (⟨some d,.binOp bo t x y t',ty,pos,af,none⟩::rest) L H
instance{i j:Int}:xM .lss i j (.bool (decide (i<j))):=⟨WX.lss⟩
instance{i j:Int}:xM .leq i j (.bool (decide (i<=j))):=⟨WX.leq⟩
instance{i j:Int}:xM .gtr i j (.bool (decide (j<i))):=⟨WX.gtr⟩
instance{i j:Int}:xM .geq i j (.bool (decide (j<=i))):=⟨WX.geq⟩
instance{i j:Int}:xM .eql i j (.bool (decide (i=j))):=⟨WX.eql⟩
instance{i j:Int}:xM .neq i j (.bool (decide (¬i=j))):=⟨WX.neq⟩
def cm{bo:BinOp}{i j:Int}{kd:IntKind}(hx:ev L x=some (.int kd i))(hy:ev L y=some (.int kd j))[cv:xM bo i j v](k:WX q g P ops Q n rest ((d,v)::L) H)(hd:Nat.blt d n=true:=by exact rfl):WX q g P ops Q n (⟨some d,.binOp bo t x y t',ty,pos,af,none⟩::rest) L H:=cv.h hx hy hd k
def ad{i j:Int}(k:WX q g P ops Q n rest ((d,.int .i64 (i+j))::L) H)(hx:ev L x=some (.int .i64 i):=by exact rfl)(hy:ev L y=some (.int .i64 j):=by exact rfl)(hd:Nat.blt d n=true:=by exact rfl)
  (r: -9223372036854775808<=i+j/\i+j<=9223372036854775807:=by omega):WX q g P ops Q n (⟨some d,.binOp .add t x y t',ty,pos,af,none⟩::rest) L H:=WX.add hx hy hd r k
def su{i j:Int}(k:WX q g P ops Q n rest ((d,.int .i64 (i - j))::L) H)(hx:ev L x=some (.int .i64 i):=by exact rfl)(hy:ev L y=some (.int .i64 j):=by exact rfl)(hd:Nat.blt d n=true:=by exact rfl)
  (r: -9223372036854775808<=i - j/\i - j<=9223372036854775807:=by omega):WX q g P ops Q n (⟨some d,.binOp .sub t x y t',ty,pos,af,none⟩::rest) L H:=WX.sub' hx hy hd r k
class lU(bo:BinOp)(p:Option Addr)(v:outParam Value):Prop where
 h:∀{g:World} {P:Program} {ops:Array Oper} {Q:Exit->Act->World->Prop} {n:Nat} {rest:List Oper} {L:Fm} {H:HH} {q:Bool} {d:Nat} {ty:TypeId} {pos:String} {af:Array Edge} {x y:Operand} {t t' e:Nat} [ht:TU P t (.pointer e)],
  ev L x=some (.pointer p)->ev L y=some (.pointer none)->Nat.blt d n=true->WX q g P ops Q n rest ((d,v)::L) H->WX q g P ops Q n (⟨some d,.binOp bo t x y t',ty,pos,af,none⟩::rest) L H
instance{p:Addr}:lU .eql (some p) (.bool false):=⟨λh1 h2 h3 k=>WX.F9 h1 h2 h3 k⟩
instance{p:Addr}:lU .neq (some p) (.bool true):=⟨λh1 h2 h3 k=>WX.G9 h1 h2 h3 k⟩
instance:lU .eql none (.bool true):=⟨λh1 h2 h3 k=>WX.H9 h1 h2 h3 k⟩
instance:lU .neq none (.bool false):=⟨λh1 h2 h3 k=>WX.I9 h1 h2 h3 k⟩
def np{bo:BinOp}{p:Option Addr}{e:Nat}[ht:TU P t (.pointer e)](hx:ev L x=some (.pointer p))(hy:ev L y=some (.pointer none))[cv:lU bo p v](k:WX q g P ops Q n rest ((d,v)::L) H)(hd:Nat.blt d n=true:=by exact rfl):WX q g P ops Q n (⟨some d,.binOp bo t x y t',ty,pos,af,none⟩::rest) L H:=cv.h hx hy hd k
def eS{a b:ByteArray}[ht:TU P t .string](k:WX q g P ops Q n rest ((d,.bool (decide (a=b)))::L) H)(hx:ev L x=some (.string a):=by exact rfl)(hy:ev L y=some (.string b):=by exact rfl)(hd:Nat.blt d n=true:=by exact rfl):
  WX q g P ops Q n (⟨some d,.binOp .eql t x y t',ty,pos,af,none⟩::rest) L H:=WX.S9 hx hy hd k
def nS{a b:ByteArray}[ht:TU P t .string](k:WX q g P ops Q n rest ((d,.bool (decide (¬a=b)))::L) H)(hx:ev L x=some (.string a):=by exact rfl)(hy:ev L y=some (.string b):=by exact rfl)(hd:Nat.blt d n=true:=by exact rfl):
  WX q g P ops Q n (⟨some d,.binOp .neq t x y t',ty,pos,af,none⟩::rest) L H:=WX.T9 hx hy hd k
def nD{p:Prop}[Decidable p](k:WX q g P ops Q n rest ((d,.bool (decide (¬p)))::L) H)(hx:ev L x=some (.bool (decide p)):=by exact rfl)(hd:Nat.blt d n=true:=by exact rfl):WX q g P ops Q n (⟨some d,.unOp .not t x,ty,pos,af,none⟩::rest) L H:=WX.C9 hx hd k
def nt{b:Bool}(k:WX q g P ops Q n rest ((d,.bool (!b))::L) H)(hx:ev L x=some (.bool b):=by exact rfl)(hd:Nat.blt d n=true:=by exact rfl):WX q g P ops Q n (⟨some d,.unOp .not t x,ty,pos,af,none⟩::rest) L H:=WX.not hx hd k
def l1{e:Nat}{p:Option Addr}{l c:Nat}[ht:TU P t (.slice e)](k:WX q g P ops Q n rest ((d,.int .i64 l)::L) H)(hx:ev L x=some (.slice p l c):=by exact rfl)(hd:Nat.blt d n=true:=by exact rfl):
  WX q g P ops Q n (⟨some d,.call ⟨.builtin .len, #[x], #[t]⟩,ty,pos,af,none⟩::rest) L H:=WX.len hx hd k
def lS{s:ByteArray}[ht:TU P t .string](k:WX q g P ops Q n rest ((d,.int .i64 s.size)::L) H)(hx:ev L x=some (.string s):=by exact rfl)(hd:Nat.blt d n=true:=by exact rfl):
  WX q g P ops Q n (⟨some d,.call ⟨.builtin .len, #[x], #[t]⟩,ty,pos,af,none⟩::rest) L H:=WX.J9 hx hd k
def mi{i j:Int}{kd:IntKind}{ts:Array TypeId}(k:WX q g P ops Q n rest ((d,.int kd (if j<i then j else i))::L) H)(hx:ev L x=some (.int kd i):=by exact rfl)(hy:ev L y=some (.int kd j):=by exact rfl)(hd:Nat.blt d n=true:=by exact rfl):
  WX q g P ops Q n (⟨some d,.call ⟨.builtin .min, #[x,y],ts⟩,ty,pos,af,none⟩::rest) L H:=WX.min hx hy hd k
def ma{i j:Int}{kd:IntKind}{ts:Array TypeId}(k:WX q g P ops Q n rest ((d,.int kd (if j>i then j else i))::L) H)(hx:ev L x=some (.int kd i):=by exact rfl)(hy:ev L y=some (.int kd j):=by exact rfl)(hd:Nat.blt d n=true:=by exact rfl):
  WX q g P ops Q n (⟨some d,.call ⟨.builtin .max, #[x,y],ts⟩,ty,pos,af,none⟩::rest) L H:=WX.max hx hy hd k
def ex{i:Nat}{vs:List Value}(k:WX q g P ops Q n rest ((d,v)::L) H)(hx:ev L x=some (.tuple vs.toArray):=by exact rfl)(hi:vs[i]? =some v:=by exact rfl)(hd:Nat.blt d n=true:=by exact rfl):
  WX q g P ops Q n (⟨some d,.extract x i,ty,pos,af,none⟩::rest) L H:=WX.extract hx hi hd k
end vals
-- memory
section mem
variable{x y z:Operand}{t t' b i T m:Nat}{ag:Bool}{cs cs' vs:List Value}{fr:Nat×Nat}{K:Obj->HH}
def ld[ht:TL P t 1 false](hx:ev L x=some (.pointer (some ⟨b,i,none⟩)))[hf:Tm b (.cells (List.toArray cs) T fr) H K](k:WX q g P ops Q n rest ((d,v)::L) H)(hc:cs[i]? =some v:=by exact rfl)(hd:Nat.blt d n=true:=by exact rfl):
  WX q g P ops Q n (⟨some d,.load t x,ty,pos,af,none⟩::rest) L H:=WX.load hx hc hd k
def lA[ht:TL P t m true](hx:ev L x=some (.pointer (some ⟨b,i,none⟩)))[hf:Tm b (.cells (List.toArray cs) T fr) H K](k:WX q g P ops Q n rest ((d,.agg vs.toArray)::L) H)
  (hc:(cs.drop i).take m=vs:=by first|exact whole rfl|(simp only[Qb.enc,Nat.zero_add,Nat.reduceAdd,drop_zero,drop_succ_cons,take_succ_cons,take_zero];rfl))(hl:vs.length=m:=by exact rfl)(hd:Nat.blt d n=true:=by exact rfl):
  WX q g P ops Q n (⟨some d,.load t x,ty,pos,af,none⟩::rest) L H:=WX.Ea hx hc hl hd k
def st[ht:TL P t 1 false](hx:ev L x=some (.pointer (some ⟨b,i,none⟩)))(hy:ev L y=some v)[hf:Tm b (.cells (List.toArray cs) T (0,0)) H K](k:WX false g P ops Q n rest L (K (.cells (List.toArray cs') T (0,0))))
  (e:cs.set i v=cs':=by first|(simp only[set_cons_zero,set_cons_succ,Nat.zero_add,Nat.reduceAdd];rfl)|exact rfl)(h1:v.oneCell'=true:=by exact rfl)(hb:Nat.blt i cs.length=true:=by exact rfl):
  WX false g P ops Q n (⟨none,.store t x y,ty,pos,af,none⟩::rest) L H:=by subst e;exact WX.store hx hy h1 hb k
def sG[ht:TL P t m ag](hx:ev L x=some (.pointer (some ⟨b,i,none⟩)))(hy:ev L y=some v)[hf:Tm b (.cells (List.toArray cs) T (0,0)) H K](k:WX false g P ops Q n rest L (K (.cells (List.toArray cs') T (0,0))))
  (hv:v.cells=vs.toArray:=by exact rfl)(e:setAt cs i vs=cs':=by first|exact Vh rfl|(simp only[setAt,set_cons_zero,set_cons_succ,Nat.zero_add,Nat.reduceAdd];rfl)|exact rfl)(hl:vs.length=m:=by exact rfl)(h1:Pd vs=true:=by exact rfl)
  (hb:Nat.ble (i+vs.length) cs.length=true:=by exact rfl):WX false g P ops Q n (⟨none,.store t x y,ty,pos,af,none⟩::rest) L H:=by subst e;exact WX.qd hx hy hv hl h1 hb k
def bx(hx:ev L x=some v)(k:∀b,WX false g P ops Q n rest ((d,.pointer (some ⟨b,0,none⟩))::L) ([(b,.cells (List.toArray vs) t (0,0))]::H))(hv:v.cells=vs.toArray:=by exact rfl)(hd:Nat.blt d n=true:=by exact rfl):
  WX false g P ops Q n (⟨some d,.box t x,ty,pos,af,none⟩::rest) L H:=WX.box hx hv hd k
def Uc(k:∀b,WX false g P ops Q n rest ((d,.pointer (some ⟨b,0,none⟩))::L) ([(b,.cells (List.toArray vs) t (0,0))]::H))(hx:ev L x=some v:=by exact rfl)(hv:v.cells=vs.toArray:=by exact rfl)(hd:Nat.blt d n=true:=by exact rfl):
 WX false g P ops Q n (⟨some d,.box t x,ty,pos,af,none⟩::rest) L H:=WX.box hx hv hd k
def al[hz:TZ P t vs](k:∀b,WX false g P ops Q n rest ((d,.pointer (some ⟨b,0,none⟩))::L) ([(b,.cells (List.toArray vs) t (0,0))]::H))(hd:Nat.blt d n=true:=by exact rfl):WX false g P ops Q n (⟨some d,.alloc t,ty,pos,af,none⟩::rest) L H:=WX.alloc hd k
def bd{parts:List (Nat×Operand)}{zs cs0:List Value}{pl:List (Nat×Nat)}[hz:TZ P t zs][hp:TP P t pl](k:WX q g P ops Q n rest ((d,.agg cs.toArray)::L) H)(hx:My L (parts.map (·.2))=some vs:=by exact rfl)
  (hf':lG pl zs ((parts.map (·.1)).zip vs)=some cs0:=by exact rfl)(e:cs0=cs:=by first|(simp only[setAt,Value.cells,set_cons_zero,set_cons_succ];rfl)|exact rfl)(hd:Nat.blt d n=true:=by exact rfl):
  WX q g P ops Q n (⟨some d,.build t parts.toArray,ty,pos,af,none⟩::rest) L H:=by subst e;exact WX.build hx hf' hd k
def iP{len e off:Nat}{j:Int}{kd:IntKind}[ht:TU P t (.array len e)][hl:TL P e m ag](k:WX q g P ops Q n rest ((d,.pointer (some ⟨b,off+j.toNat*m,none⟩))::L) H)(hx:ev L x=some (.pointer (some ⟨b,off,none⟩)):=by exact rfl)
  (hi:ev L y=some (.int kd j):=by exact rfl)(h0:0<=j/\j<len:=by omega)(hd:Nat.blt d n=true:=by exact rfl):WX q g P ops Q n (⟨some d,.indexAddr t x y,ty,pos,af,none⟩::rest) L H:=WX.R9 hx hi h0 hd k
end mem
-- slices
section sls
variable{α:Type}[E:Qb α]{xs:List α}{y:α}{h:Hp}{K:Hp->HH}{x i:Operand}{t f m off off' k e:Nat}{ag:Bool}{kd:IntKind}{u:Value}
def ln[ht:TU P t (.slice e)](hx:ev L x=some v)(hs:Rs xs v h)(kk:WX q g P ops Q n rest ((d,.int .i64 xs.length)::L) H)(hd:Nat.blt d n=true:=by exact rfl):WX q g P ops Q n (⟨some d,.call ⟨.builtin .len, #[x], #[t]⟩,ty,pos,af,none⟩::rest) L H:=WX.L4 hx hs hd kk
def ix[ht:TU P t (.slice e)][hl:TL P e m ag](hx:ev L x=some v)(hi:ev L i=some (.int kd (k:Int)))(kk:WX q g P ops Q n rest ((d,Wn v k m 0)::L) H)(hs:Rs xs v h:=by assumption)(hk:xs[k]? =some y:=by assumption)(hd:Nat.blt d n=true:=by exact rfl):
  WX q g P ops Q n (⟨some d,.indexAddr t x i,ty,pos,af,none⟩::rest) L H:=WX.idx hx hi hs hk hd kk
def iI{j:Int}[ht:TU P t (.slice e)][hl:TL P e m ag](hx:ev L x=some v)(hi:ev L i=some (.int kd j))(kk:WX q g P ops Q n rest ((d,Wn v j.toNat m 0)::L) H)(hs:Rs xs v h:=by assumption)(h0:0<=j:=by omega)(hk:xs[j.toNat]? =some y:=by assumption)(hd:Nat.blt d n=true:=by exact rfl):
  WX q g P ops Q n (⟨some d,.indexAddr t x i,ty,pos,af,none⟩::rest) L H:=WX.HP hx hi hs h0 hk hd kk
def fE(hx:ev L x=some (Wn v k m off))[hf:TF P t f off'](kk:WX q g P ops Q n rest ((d,Wn v k m (off+off'))::L) H)(hs:Rs xs v h:=by assumption)(hk:xs[k]? =some y:=by assumption)(hd:Nat.blt d n=true:=by exact rfl):
  WX q g P ops Q n (⟨some d,.fieldAddr t x f,ty,pos,af,none⟩::rest) L H:=WX.zZ hx hs hk hd kk
def lE[ht:TL P t 1 false](hx:ev L x=some (Wn v k m off))(hs:Rs xs v h)[hw:Lu h H K](kk:WX q g P ops Q n rest ((d,u)::L) H)(hk:xs[k]? =some y:=by assumption)(vG:m=Qb.sz α:=by exact rfl)(ho:(Qb.enc y)[off]? =some u:=by exact rfl)(hd:Nat.blt d n=true:=by exact rfl):
  WX q g P ops Q n (⟨some d,.load t x,ty,pos,af,none⟩::rest) L H:=WX.M4 hx hs hk vG ho hd kk
def lF{mm:Nat}{us:List Value}[ht:TL P t mm true](hx:ev L x=some (Wn v k m off))(hs:Rs xs v h)[hw:Lu h H K](kk:WX q g P ops Q n rest ((d,.agg us.toArray)::L) H)(hk:xs[k]? =some y:=by assumption)(vG:m=Qb.sz α:=by exact rfl)
  (ho:((Qb.enc y).drop off).take mm=us:=by first|exact whole rfl|(simp only[Qb.enc,Nat.zero_add,Nat.reduceAdd,drop_zero,drop_succ_cons,take_succ_cons,take_zero];rfl))(hl:us.length=mm:=by exact rfl)(hd:Nat.blt d n=true:=by exact rfl):
  WX q g P ops Q n (⟨some d,.load t x,ty,pos,af,none⟩::rest) L H:=WX.fo hx hs hk vG ho hl hd kk
def sl[ht:TU P t (.slice e)][hl:TL P e m ag](hx:ev L x=some v)(hi:ev L i=some (.int kd (k:Int)))(hs:Rs xs v h)(kk:WX q g P ops Q n rest ((d,Ao v k)::L) H)(hk:k<=xs.length:=by omega)(hd:Nat.blt d n=true:=by exact rfl):
  WX q g P ops Q n (⟨some d,.slice t x none (some i) none,ty,pos,af,none⟩::rest) L H:=WX.Ao hx hi hs hk hd kk
def cv{xs:List UInt8}{t':Nat}[h1:TU P t (.slice e)][h2:TU P e (.int .u8)][h3:TU P t' .string](hx:ev L x=some v)(hs:Rs xs v h)[hw:Lu h H K](kk:WX q g P ops Q n rest ((d,.string (strOf xs))::L) H)(hd:Nat.blt d n=true:=by exact rfl):
  WX q g P ops Q n (⟨some d,.convert t t' x,ty,pos,af,none⟩::rest) L H:=WX.strOf hx hs hd kk
end sls
end
-- a cut: what stands behind a piece, however it got there
section DZ
variable{g:World}{P:Program}{ops:Array Oper}{Q Q':Exit->Act->World->Prop}{n:Nat}{os:List Oper}{L:Fm}{H:HH}
def At(g:World)(n:Nat)(L:Fm)(H:HH):Act->World->Prop:=λa w=>Fr n L a/\on g H.flatten w
def dQ{N N':Act->World->Prop}(h:∀a w,N a w->N' a w):∀e a w,Exit.then N Q e a w->Exit.then N' Q e a w:=by
 intro e a w hh;cases e<;>first|exact h _ _ hh|exact hh
end DZ
-- many steps at once
structure Hid(B:Prop):Prop where
 out:B
def wm(q:B)(h:Hid B->A:=by intro q;(first|apply go|refine mv ?_|(refine I.ld ?_;first|refine ld rfl ?_|refine lE rfl (by assumption) ?_|refine lA rfl ?_|refine lF rfl (by assumption) ?_)|refine T4 ?_|(refine I.gd ?_;first|refine gy ?_|refine gn ?_|refine N6 ?_|refine gu ?_|refine O6 ?_|refine gT ?_|refine gF ?_)|(refine I.fa ?_;first|refine fa ?_|refine fE rfl ?_)|(refine I.nc ?_;first|refine nc ?_|refine nE rfl ?_)|(refine I.bin ?_;first|refine cm rfl rfl ?_|refine ad ?_|refine su ?_|refine np rfl rfl ?_|refine eS ?_|refine nS ?_)|(refine I.pk ?_;first|refine pT ?_|refine pF ?_)|(refine I.cond ?_;first|refine cT ?_|refine cF ?_|refine cP ?_|refine cN ?_)|refine mN ?_|refine WX.nil ?_|refine mU ?_|refine mA ?_|(refine I.bi ?_;first|refine ln rfl (by assumption) ?_|refine l1 ?_|refine lS ?_|refine mi ?_|refine ma ?_)|(refine I.ix ?_;first|refine ix rfl rfl ?_|refine iI rfl rfl ?_|refine iP ?_)|(refine I.st ?_;first|refine st rfl rfl ?_|refine sG rfl rfl ?_)|refine ex ?_|(refine I.un ?_;first|refine nD ?_|refine nt ?_)|refine zY ?_|refine bd ?_|refine sl rfl rfl (by assumption) ?_|refine cv rfl (by assumption) ?_);exact q.out):A:=h ⟨q⟩
def run(q:B)(h:Hid B->A:=by intro q;(first|apply go|refine mv ?_|(refine I.ld ?_;first|refine ld rfl ?_|refine lE rfl (by assumption) ?_|refine lA rfl ?_|refine lF rfl (by assumption) ?_)|refine T4 ?_|(refine I.gd ?_;first|refine gy ?_|refine gn ?_|refine N6 ?_|refine gu ?_|refine O6 ?_|refine gT ?_|refine gF ?_)|(refine I.fa ?_;first|refine fa ?_|refine fE rfl ?_)|(refine I.nc ?_;first|refine nc ?_|refine nE rfl ?_)|(refine I.bin ?_;first|refine cm rfl rfl ?_|refine ad ?_|refine su ?_|refine np rfl rfl ?_|refine eS ?_|refine nS ?_)|(refine I.pk ?_;first|refine pT ?_|refine pF ?_)|(refine I.cond ?_;first|refine cT ?_|refine cF ?_|refine cP ?_|refine cN ?_)|refine mN ?_|refine WX.nil ?_|refine mU ?_|refine mA ?_|(refine I.bi ?_;first|refine ln rfl (by assumption) ?_|refine l1 ?_|refine lS ?_|refine mi ?_|refine ma ?_)|(refine I.ix ?_;first|refine ix rfl rfl ?_|refine iI rfl rfl ?_|refine iP ?_)|(refine I.st ?_;first|refine st rfl rfl ?_|refine sG rfl rfl ?_)|refine ex ?_|(refine I.un ?_;first|refine nD ?_|refine nt ?_)|refine zY ?_|refine bd ?_|refine sl rfl rfl (by assumption) ?_|refine cv rfl (by assumption) ?_);(repeat'(first|apply go|refine mv ?_|(refine I.ld ?_;first|refine ld rfl ?_|refine lE rfl (by assumption) ?_|refine lA rfl ?_|refine lF rfl (by assumption) ?_)|refine T4 ?_|(refine I.gd ?_;first|refine gy ?_|refine gn ?_|refine N6 ?_|refine gu ?_|refine O6 ?_|refine gT ?_|refine gF ?_)|(refine I.fa ?_;first|refine fa ?_|refine fE rfl ?_)|(refine I.nc ?_;first|refine nc ?_|refine nE rfl ?_)|(refine I.bin ?_;first|refine cm rfl rfl ?_|refine ad ?_|refine su ?_|refine np rfl rfl ?_|refine eS ?_|refine nS ?_)|(refine I.pk ?_;first|refine pT ?_|refine pF ?_)|(refine I.cond ?_;first|refine cT ?_|refine cF ?_|refine cP ?_|refine cN ?_)|refine mN ?_|refine WX.nil ?_|refine mU ?_|refine mA ?_|(refine I.bi ?_;first|refine ln rfl (by assumption) ?_|refine l1 ?_|refine lS ?_|refine mi ?_|refine ma ?_)|(refine I.ix ?_;first|refine ix rfl rfl ?_|refine iI rfl rfl ?_|refine iP ?_)|(refine I.st ?_;first|refine st rfl rfl ?_|refine sG rfl rfl ?_)|refine ex ?_|(refine I.un ?_;first|refine nD ?_|refine nt ?_)|refine zY ?_|refine bd ?_|refine sl rfl rfl (by assumption) ?_|refine cv rfl (by assumption) ?_));exact q.out):A:=h ⟨q⟩
def ga(q:B)(h:Hid B->A:=by intro q;(first|apply go|refine mv ?_|(refine I.ld ?_;first|refine ld rfl ?_|refine lE rfl (by assumption) ?_)|refine T4 ?_|(refine I.gd ?_;first|refine gy ?_|refine gn ?_|refine N6 ?_|refine gu ?_|refine O6 ?_|refine gT ?_|refine gF ?_)|(refine I.fa ?_;first|refine fa ?_|refine fE rfl ?_)|(refine I.nc ?_;first|refine nc ?_|refine nE rfl ?_)|(refine I.bin ?_;first|refine cm rfl rfl ?_|refine ad ?_|refine su ?_|refine np rfl rfl ?_|refine eS ?_|refine nS ?_)|(refine I.pk ?_;first|refine pT ?_|refine pF ?_)|(refine I.cond ?_;first|refine cT ?_|refine cF ?_|refine cP ?_|refine cN ?_)|refine mN ?_|refine WX.nil ?_|refine mU ?_|refine mA ?_|(refine I.bi ?_;first|refine ln rfl (by assumption) ?_|refine l1 ?_|refine lS ?_|refine mi ?_|refine ma ?_)|(refine I.ix ?_;first|refine ix rfl rfl ?_|refine iI rfl rfl ?_|refine iP ?_)|refine ex ?_|(refine I.un ?_;first|refine nD ?_|refine nt ?_)|refine zY ?_|refine sl rfl rfl (by assumption) ?_|refine cv rfl (by assumption) ?_);(repeat'(first|apply go|refine mv ?_|(refine I.ld ?_;first|refine ld rfl ?_|refine lE rfl (by assumption) ?_)|refine T4 ?_|(refine I.gd ?_;first|refine gy ?_|refine gn ?_|refine N6 ?_|refine gu ?_|refine O6 ?_|refine gT ?_|refine gF ?_)|(refine I.fa ?_;first|refine fa ?_|refine fE rfl ?_)|(refine I.nc ?_;first|refine nc ?_|refine nE rfl ?_)|(refine I.bin ?_;first|refine cm rfl rfl ?_|refine ad ?_|refine su ?_|refine np rfl rfl ?_|refine eS ?_|refine nS ?_)|(refine I.pk ?_;first|refine pT ?_|refine pF ?_)|(refine I.cond ?_;first|refine cT ?_|refine cF ?_|refine cP ?_|refine cN ?_)|refine mN ?_|refine WX.nil ?_|refine mU ?_|refine mA ?_|(refine I.bi ?_;first|refine ln rfl (by assumption) ?_|refine l1 ?_|refine lS ?_|refine mi ?_|refine ma ?_)|(refine I.ix ?_;first|refine ix rfl rfl ?_|refine iI rfl rfl ?_|refine iP ?_)|refine ex ?_|(refine I.un ?_;first|refine nD ?_|refine nt ?_)|refine zY ?_|refine sl rfl rfl (by assumption) ?_|refine cv rfl (by assumption) ?_));exact q.out):A:=h ⟨q⟩
def D.rd(y:α)(hp:p y)(hm:μ y<m)(f:Aa L (Li y):=by repeat(first|exact Aa.nil|refine Aa.cons rfl ?_))(s:Ia H (Hi y):=by exact Ia.qa inferInstance):
 D g (Exit.then (Round g p Li Hi μ n m) Q) .normal n L H:=D.round y hp hm f s
def can{α:Type _}:(∀(a:α) (s t:List α),(a::s)++t=a::(s++t))/\∀t:List α,[]++t=t:=⟨λ_ _ _=>rfl,λ_=>rfl⟩
def rn(q:B)(h:Hid B->A:=by intro q;(first|(simp only[can];(try refine run ?_))|refine run ?_);exact q.out):A:=h ⟨q⟩
def Za(q:B)(h:Hid B->A:=by intro q;(first|(simp only[can];(try refine ga ?_))|refine ga ?_);exact q.out):A:=h ⟨q⟩
section
variable{g:World}{P:Program}{ops:Array Oper}{Q:Exit->Act->World->Prop}{n:Nat}{rest:List Oper}{L:Fm}{H:HH}{q:Bool}{d:Nat}{ty:TypeId}{pos:String}{af:Array Edge}
def ce{f:FuncId}{args:List Value}{pre:HH}{post:Value->HH->Prop}{fn:Func}{c:Code}(hf:P.funcs[f]? =some fn)
 (h:∀(g:World) (R:Hp),W g P c (bodyPost P fn (Lr g post R)) n (Ew 0 args) (pre++[R]))(hb:fn.body=some c:=by exact rfl)(hn:fn.ntmps=n:=by exact rfl)(ha:Nat.ble args.length n=true:=by exact rfl):Ct P f args pre post:=Ct.mk' hf hb hn ha h
def Tk{B:World->Hp->Prop}{f:FuncId}{args:List Value}{pre:HH}{post:Value->HH->Prop}{fn:Func}{c:Code}(hf:P.funcs[f]? =some fn)(q:∀g R,B g R)(hb:fn.body=some c:=by exact rfl)(hn:fn.ntmps=n:=by exact rfl)(ha:Nat.ble args.length n=true:=by exact rfl)
 (h:∀(g:World) (R:Hp),Hid (B g R)->W g P c (bodyPost P fn (Lr g post R)) n (Ew 0 args) (pre++[R]):=by intro g R q;(try simp only[can]);(try refine run ?_);exact q.out):Ct P f args pre post:=Ct.mk' hf hb hn ha λg R=>h g R ⟨q g R⟩
def ng{B:World->Hp->Prop}{f:FuncId}{args:List Value}{pre:HH}{post:Value->HH->Prop}{fn:Func}{c:Code}(hf:P.funcs[f]? =some fn)(q:∀g R,B g R)(hb:fn.body=some c:=by exact rfl)(hn:fn.ntmps=n:=by exact rfl)(ha:Nat.ble args.length n=true:=by exact rfl)
 (h:∀(g:World) (R:Hp),Hid (B g R)->W g P c (bodyPost P fn (Lr g post R)) n (Ew 0 args) (pre++[R]):=by intro g R q;(try simp only[can]);(try refine ga ?_);exact q.out):Ct P f args pre post:=Ct.mk' hf hb hn ha λg R=>h g R ⟨q g R⟩
def wq[m:Mx P]{id:Nat}{l:List Oper}(h:WX true g P l.toArray Q n l L H)(hB:Region.lexB .any l.toArray=true:=by kernel_rfl):W g P (.region id l.toArray true) Q n L H:=W.quiet m.h hB h
def wr{B:Prop}[m:Mx P]{id:Nat}{l:List Oper}(q:B)(hB:Region.lexB .any l.toArray=true:=by kernel_rfl)(h:Hid B->WX true g P l.toArray Q n l L H:=by intro q;(try simp only[can]);(try refine run ?_);exact q.out):W g P (.region id l.toArray true) Q n L H:=W.quiet m.h hB (h ⟨q⟩)
def sj{B:Prop}[m:Mx P]{id:Nat}{l:List Oper}(q:B)(hB:Region.lexB .any l.toArray=true:=by kernel_rfl)(h:Hid B->WX true g P l.toArray Q n l L H:=by intro q;(try simp only[can]);(try refine ga ?_);exact q.out):W g P (.region id l.toArray true) Q n L H:=W.quiet m.h hB (h ⟨q⟩)
def cq{v:Value}{f:FuncId}{args:List Operand}{ts:Array TypeId}{vs:List Value}{pre Hr:HH}[hn:Enters P f](hc:Ct P f vs pre (λr H'=>r=v/\H'=pre))(k:WX q g P ops Q n rest ((d,v)::L) H)[pk:Oc pre H Hr](hx:My L args=some vs:=by exact rfl)(hd:Nat.blt d n=true:=by exact rfl):
 WX q g P ops Q n (⟨some d,.call ⟨.value (.func f),args.toArray,ts⟩,ty,pos,af,none⟩::rest) L H:=WX.oa hx hc hd k
def ck{f:FuncId}{args:List Operand}{ts:Array TypeId}{vs:List Value}{pre Hr:HH}{post:Value->HH->Prop}[hn:Enters P f](hc:Ct P f vs pre post)[pk:Oc pre H Hr](k:∀v H',post v H'->WX false g P ops Q n rest ((d,v)::L) (H'++Hr))(hx:My L args=some vs:=by exact rfl)(hd:Nat.blt d n=true:=by exact rfl):
 WX false g P ops Q n (⟨some d,.call ⟨.value (.func f),args.toArray,ts⟩,ty,pos,af,none⟩::rest) L H:=WX.call hx hc hd k
def W.lo{α:Type}{c:Code}(p:α->Prop)(Li:α->Fm)(Hi:α->HH)(μ:α->Nat)(x:α)(hp:p x)(r:∀x,p x->W g P c (Exit.then (Round g p Li Hi μ n (μ x)) Q) n (Li x) (Hi x))
 (f:Aa L (Li x):=by repeat(first|exact Aa.nil|refine Aa.cons rfl ?_))(s:Ia H (Hi x):=by exact Ia.qa inferInstance):W g P (.loop c) Q n L H:=W.loop p Li Hi μ x hp f s r
def Xa{v:Value}{fn:Func}{post:Value->HH->Prop}{R:Hp}{t:Nat}(H':HH){r:HH}(hr:fn.results= #[.tmp t])(hl:lk L t=some v)(hp:post v H')[k:Oc (H'++[R]) H r]:D g (bodyPost P fn (Lr g post R)) .ret n L H:=D.Ma H' r hr hl hp
end
def Wi{P:Program}{v:Value}{fn:Func}{post:Value->HH->Prop}{R:Hp}{t:Nat}(H':HH){r:HH}(hr:fn.results= #[.tmp t]:=by exact rfl)(hl:lk L t=some v:=by exact rfl)(hp:post v H':=by exact⟨rfl,rfl⟩)[k:Oc (H'++[R]) H r]:D g (bodyPost P fn (Lr g post R)) .ret n L H:=D.Ma H' r hr hl hp
def D.re(y:α)(hp:p y:=by omega)(hm:μ y<m:=by omega)(f:Aa L (Li y):=by repeat(first|exact Aa.nil|refine Aa.cons rfl ?_))(s:Ia H (Hi y):=by exact Ia.qa inferInstance):
 D g (Exit.then (Round g p Li Hi μ n m) Q) .normal n L H:=D.round y hp hm f s
variable{k:Int}
structure Me where
 k:Int
 v:Value
 born:Nat
def Me.e(x:Me):MapEntry:={key:= .int .i64 x.k,val:=x.v,born:=x.born}
def ez(l:List Me)(c:Nat):Obj:= .map (l.map Me.e).toArray c
def Dj(b c:Nat)(vis:List Me):Obj:= .mapIter (some b) c (vis.map (·.born)).toArray c
structure Vr(l:List Me)(c:Nat):Prop where
 ks:(l.map (·.k)).Nodup
 bs:(l.map (·.born)).Nodup
 lt:∀x∈l,x.born<c
def Cn(l:List Me)(k:Int):Option Me:=l.find? λx=>decide (x.k=k)
def FO(l:List Me)(k:Int)(z:Value):Value:=match Cn l k with
 |some x=>x.v
 |none=>z
class P6(P:Program)(t:Nat)(z:outParam Value):Prop where
 h:((P.info? t).bind (·.zero))=some z
def P6.run{P:Program}{t:Nat}{z:Value}(h:P6 P t z){w:World}:(zeroValue t).run P w= .ok z w:=by
 have:=h.h
 cases hi:P.info? t with
 |none=>simp[hi] at this
 |some i=>simp only[hi,Option.bind_some] at this;simp[zeroValue,typeInfo,hi,this]
def Vr.new:Vr [] 0:=⟨by simp,by simp,by simp⟩
def Vr.put{l:List Me}{c:Nat}(h:Vr l c)(hk:Cn l k=none)(v:Value):Vr (l++[⟨k,v,c⟩]) (c+1):=by
 refine⟨?_,?_,λx hx=>?_⟩
 .rw[He,nodup_append];refine⟨h.ks,by simp,λa ha b hb=>?_⟩;simp at hb;subst hb;rintro rfl;obtain⟨x,hx,hxk⟩:=mem_map.1 ha;have:=List.find?_eq_none.1 hk x hx;simp[hxk] at this
 .rw[He,nodup_append];refine⟨h.bs,by simp,λa ha b hb=>?_⟩;simp at hb;subst hb;obtain⟨x,hx,uX⟩:=mem_map.1 ha;have:=h.lt x hx;omega
 .rcases mem_append.1 hx with hx|hx
  .have:=h.lt x hx;omega
  .rw[mem_singleton] at hx;subst hx;simp
def Vr.del{l:List Me}{c:Nat}(h:Vr l c)(p:Me->Bool):Vr (l.filter p) c:=
 ⟨h.ks.sublist (filter_sublist.map _),h.bs.sublist (filter_sublist.map _),λx hx=>h.lt x (mem_filter.1 hx).1⟩
def NQ(k:Int):List Me->Nat->Option (Nat×Value)
 |[],_=>none
 |x::r,i=>if k=x.k then some (i,x.v) else NQ k r (i+1)
def Ex{kd:IntKind}{k:Int}:∀(l:List Me) (i:Nat),Instr.findNow (.int kd) (.int .i64 k) (l.map Me.e) i=some (NQ k l i)
 |[],i=>rfl
 |x::r,i=>by
  simp only[map_cons,Instr.findNow,Me.e,Instr.sameNow,if_true,NQ];by_cases h:k=x.k
  .simp[h]
  .have:(k==x.k)=false:=by simpa using h
   simp only[this,if_neg h];exact Ex r (i+1)
def Iy{k:Int}:∀(l:List Me) (i:Nat),(NQ k l i).map Prod.snd=(Cn l k).map (·.v)
 |[],i=>rfl
 |x::r,i=>by
  simp only[NQ,Cn,List.find?_cons];by_cases h:k=x.k
  .simp[h]
  .have h2: ¬x.k=k:=λe=>h e.symm;simp only[if_neg h,rj h2];exact Iy r (i+1)
def nU{l:List Me}(h:Cn l k=none)(i:Nat):NQ k l i=none:=by
 have:=Iy (k:=k) l i;rw[h] at this
 cases hf:NQ k l i with
 |none=>rfl
 |some x=>rw[hf] at this;cases this
def nG{k:Int}:∀(l:List Me) (i j:Nat) (v:Value),(l.map (·.k)).Nodup->NQ k l i=some (j,v)->i<=j/\j - i<l.length/\l.eraseIdx (j - i)=l.filter λx=>decide (x.k≠k)
 |[],i,j,v,_,h=>by cases h
 |x::r,i,j,v,hn,h=>by
  simp only[NQ] at h;rw[map_cons,nodup_cons] at hn;by_cases hk:k=x.k
  .rw[if_pos hk] at h;cases h;refine⟨Nat.le_refl _,by simp,?_⟩;rw[Nat.sub_self,eraseIdx_zero,tail_cons,filter_cons];rw[if_neg (by simp[hk])];symm;rw[filter_eq_self];intro y hy;have: ¬y.k=x.k:=λe=>hn.1 (mem_map.2 ⟨y,hy,e⟩);simpa[hk] using this
  .rw[if_neg hk] at h;obtain⟨h1,h2,h3⟩:=nG r (i+1) j v hn.2 h;refine⟨by omega,by simp;omega,?_⟩;rw[show j - i=(j - (i+1))+1 by omega,eraseIdx_cons_succ,h3,filter_cons,if_pos (by simpa using λe=>hk e.symm)]
def born_inj{l:List Me}(hn:(l.map (·.born)).Nodup){a b:Me}(ha:a∈l)(hb:b∈l)(hab:a.born=b.born):a=b:=by
 induction l with
 |nil=>cases ha
 |cons y r ih=>
  rw[map_cons,nodup_cons] at hn;rcases mem_cons.1 ha with e1|OQ<;>rcases mem_cons.1 hb with e2|hb'
  .rw[e1,e2]
  .exact absurd (mem_map.2 ⟨b,hb',by rw[<-hab,e1]⟩) hn.1
  .exact absurd (mem_map.2 ⟨a,OQ,by rw[hab,e2]⟩) hn.1
  .exact ih hn.2 OQ hb'
section
variable{g:World}{P:Program}{ops:Array Oper}{Q:Exit->Act->World->Prop}{n:Nat}{rest:List Oper}{L:Fm}{H:HH}{q:Bool}
variable{d:Nat}{ty:TypeId}{pos:String}{af:Array Edge}{v:Value}
variable{x i y:Operand}{t kt et b c:Nat}{k:Int}{l:List Me}{K:Obj->HH}
def KA:Obj->Bool
 | .cells .. =>false
 |_=>true
def Wm{w:World}{b:Nat}{o:Obj}(h:w.heap[b]? =some o)(hn:KA o=true):(getObj b).run P w= .ok o w:=by
 simp only[getObj,Sem.run];rw[h];cases o<;>first|rfl|cases hn
def bF{w:World}{b:Nat}{o o':Obj}(h:w.heap[b]? =some o)(hn:KA o=true):(setObj b o').run P w= .ok () {w with heap:=w.heap.setIfInBounds b o'}:=by
 show(match w.heap[b]? with
  |some (.cells ..)=>Result.halt (.stuck "setObj: a row of cells") w
  |some _=>(Sem.pure ()).run P {w with heap:=w.heap.setIfInBounds b o'}
  |none=> .halt (.stuck "setObj: no such block") w)=_
 rw[h];cases o<;>first|rfl|cases hn
def run_findKey{w:World}[hk:TU P kt (.int .i64)]:(Instr.findKey kt (.int .i64 k) (l.map Me.e)).run P w= .ok (NQ k l 0) w:=by
 unfold Instr.findKey;rw[Sem.run_bind,hk.run];simp only[Result.andThen_ok,Ex];rfl
def run_checkKey{w:World}{e:Bool}[hk:TU P kt (.int .i64)]:(Instr.checkKey e 10000 kt (.int .i64 k)).run P w= .ok () w:=by
 unfold Instr.checkKey;simp[hk.run]
def Uh{w:World}(hh:w.heap[b]? =some (ez l c)):(getObj b).run P w= .ok (.map (l.map Me.e).toArray c) w:=by
 exact Wm hh rfl
def WX.makeMap(hd:Nat.blt d n=true)(kk:∀b,WX false g P ops Q n rest ((d,.map (some b))::L) ([(b,ez [] 0)]::H)):WX false g P ops Q n (⟨some d,.makeMap t none,ty,pos,af,none⟩::rest) L H:=
 WX.xZ hd (λa w ha hw=>⟨.map (some w.heap.size),w.alloc (ez [] 0),_,by simp[execOp,Instr.makeMap,ez],by simpa using hw.alloc (ez [] 0),kk w.heap.size⟩)
def WX.lookup{z:Value}(hx:ev L x=some (.map (some b)))(hi:ev L i=some (.int .i64 k))[ht:TU P t (.map kt et)][hk:TU P kt (.int .i64)][hz:P6 P et z][hf:Tm b (ez l c) H K](hd:Nat.blt d n=true)
  (kk:WX q g P ops Q n rest ((d,FO l k z)::L) H):WX q g P ops Q n (⟨some d,.lookup t x i false,ty,pos,af,none⟩::rest) L H:=
 WX.val (λa ha w hw=>by
  have h1:=Uh (P:=P) (hf.heap hw);have h2:((l.map Me.e).toArray.toList)=l.map Me.e:=rfl;have h3:=Iy (k:=k) l 0;simp only[execOp,ha.ev hx,ha.ev hi,Instr.lookup,Sem.run_bind,ht.run,h1,Result.andThen_ok,run_checkKey,h2,run_findKey,Sem.run_pure];unfold FO
  cases hf:NQ k l 0 with
  |none=>
   rw[hf] at h3
   cases hm:Cn l k with
   |none=>simp[hz.run]
   |some x=>rw[hm] at h3;cases h3
  |some jv=>
   rw[hf] at h3
   cases hm:Cn l k with
   |none=>rw[hm] at h3;cases h3
   |some x=>
    rw[hm] at h3;simp only[Option.map_some,Option.some.injEq] at h3;simp[h3]) hd kk
def WX.kL(hx:ev L x=some (.map (some b)))[ht:TU P t (.map kt et)][hf:Tm b (ez l c) H K](hd:Nat.blt d n=true)(kk:WX q g P ops Q n rest ((d,.int .i64 l.length)::L) H):
  WX q g P ops Q n (⟨some d,.call ⟨.builtin .len, #[x], #[t]⟩,ty,pos,af,none⟩::rest) L H:=
 WX.val (λa ha w hw=>Lm (args:=[x]) (vs:=[.map (some b)]) (by simp[ha.ev hx]) (by
  have h1:=Uh (P:=P) (hf.heap hw);simp[builtin,Builtin.len_,ht.run,h1,goInt])) hd kk
def map_set{w:World}{o o':Obj}(hf:Tm b o H K)(hno:KA o=true)(hw:on g H.flatten w):∃w',(setObj b o').run P w= .ok () w'/\on g (K o').flatten w':=by
 refine⟨{w with heap:=w.heap.setIfInBounds b o'},bF (hf.heap hw) hno,?_⟩;have hlt:b<w.heap.size:=hw.lt hf.mem;exact hf.set hw ⟨rfl,rfl,rfl,by simp⟩ (by simp[hlt]) (λk hk=>by rw[Array.getElem?_setIfInBounds_ne (λe=>hk e.symm)])
def WX.VX(hx:ev L x=some (.map (some b)))(hi:ev L i=some (.int .i64 k))(hy:ev L y=some v)[ht:TU P t (.map kt et)][hk:TU P kt (.int .i64)][hf:Tm b (ez l c) H K](hn:Cn l k=none)
  (kk:WX false g P ops Q n rest L (K (ez (l++[⟨k,v,c⟩]) (c+1)))):WX false g P ops Q n (⟨none,.mapUpdate t x i y,ty,pos,af,none⟩::rest) L H:=
 WX.yZ (λa w ha hw=>by
  have h1:=Uh (P:=P) (hf.heap hw);have h2:((l.map Me.e).toArray.toList)=l.map Me.e:=rfl;obtain⟨w',e1,e2⟩:=map_set (P:=P) (o':=ez (l++[⟨k,v,c⟩]) (c+1)) hf rfl hw;refine⟨w',_,?_,e2,kk⟩;have e3:(Obj.map ((l.map Me.e).toArray.push {key:= .int .i64 k,val:=v,born:=c}) (c+1))=ez (l++[⟨k,v,c⟩]) (c+1):=by simp[ez,Me.e]
  simp only[execOp,ha.ev hx,ha.ev hi,ha.ev hy,Instr.mapUpdate,Sem.run_bind,ht.run,h1,Result.andThen_ok,run_checkKey,h2,run_findKey,nU hn,e3,e1,Sem.run_pure])
def WX.UX(hx:ev L x=some (.map (some b)))(hi:ev L i=some (.int .i64 k))[ht:TU P t (.map kt et)][hk:TU P kt (.int .i64)][hf:Tm b (ez l c) H K](hn:(l.map (·.k)).Nodup)
  (kk:WX false g P ops Q n rest L (K (ez (l.filter λx=>decide (x.k≠k)) c))):WX false g P ops Q n (⟨none,.call ⟨.builtin .delete, #[x,i], #[t,kt]⟩,ty,pos,af,none⟩::rest) L H:=
 WX.F4 (λa w ha hw=>by
  have h1:=Uh (P:=P) (hf.heap hw);have h2:((l.map Me.e).toArray.toList)=l.map Me.e:=rfl;obtain⟨w',e1,e2⟩:=map_set (P:=P) (o':=ez (l.filter λx=>decide (x.k≠k)) c) hf rfl hw;refine⟨.tuple #[],w',_,Lm (args:=[x,i]) (vs:=[.map (some b),.int .i64 k]) (by simp[ha.ev hx,ha.ev hi]) ?_,e2,kk⟩;have hc:(Instr.checkKey ((l.map Me.e).toArray.isEmpty) 10000 kt (.int .i64 k)).run P w= .ok () w:=run_checkKey
  cases LU:NQ k l 0 with
  |none=>
   have hno:l.filter (λx=>decide (x.k≠k))=l:=by
    rw[filter_eq_self];intro y hy;have h3:=Iy (k:=k) l 0;rw[LU] at h3
    cases hm:Cn l k with
    |some x=>rw[hm] at h3;cases h3
    |none=>have:=List.find?_eq_none.1 hm y hy;simpa using this
   rw[hno] at e1;have fG:(setObj b (.map (l.map Me.e).toArray c)).run P w= .ok () w':=e1
   have Jd:(Builtin.delete_ #[t,kt] ty #[.map (some b),.int .i64 k]).run P w= .ok (.tuple #[]) w':=by
    unfold Builtin.delete_;simp only[List.getElem?_toArray,List.getElem?_cons_zero,List.getElem?_cons_succ,Sem.run_bind,ht.run,Result.andThen_ok,h1,hc,h2,run_findKey,LU,fG,Sem.run_pure]
   simp only[builtin,Sem.run_bind,Jd,Result.andThen_ok,Sem.run_pure]
  |some jv=>
   obtain⟨j,v⟩:=jv;obtain⟨h4,h5,h6⟩:=nG l 0 j v hn LU;rw[Nat.sub_zero] at h5 h6
   have e4:(Obj.map ((l.map Me.e).toArray.eraseIdxIfInBounds j) c)=ez (l.filter λx=>decide (x.k≠k)) c:=by
    rw[<-h6];unfold ez;congr 1;rw[Array.eraseIdxIfInBounds,dif_pos (by simpa using h5)];apply Array.toList_inj.1;simp[eraseIdx_eq_take_drop_succ,map_take,map_drop]
   have fG:(setObj b (.map ((l.map Me.e).toArray.eraseIdxIfInBounds j) c)).run P w= .ok () w':=by rw[e4];exact e1
   have Jd:(Builtin.delete_ #[t,kt] ty #[.map (some b),.int .i64 k]).run P w= .ok (.tuple #[]) w':=by
    unfold Builtin.delete_;simp only[List.getElem?_toArray,List.getElem?_cons_zero,List.getElem?_cons_succ,Sem.run_bind,ht.run,Result.andThen_ok,h1,hc,h2,run_findKey,LU,fG,Sem.run_pure]
   simp only[builtin,Sem.run_bind,Jd,Result.andThen_ok,Sem.run_pure])
-- a range
def WX.range(hx:ev L x=some (.map (some b)))[ht:TU P t (.map kt et)][hf:Tm b (ez l c) H K](hd:Nat.blt d n=true)(kk:∀r,WX false g P ops Q n rest ((d,.pointer (some ⟨r,0,none⟩))::L) ([(r,Dj b c [])]::H)):
  WX false g P ops Q n (⟨some d,.range t x,ty,pos,af,none⟩::rest) L H:=
 WX.xZ hd (λa w ha hw=>by
  have h1:=Uh (P:=P) (hf.heap hw);exact⟨.pointer (some ⟨w.heap.size,0,none⟩),w.alloc (Dj b c []),_,by simp[execOp,ha.ev hx,Instr.range,ht.run,h1,Dj],by simpa using hw.alloc (Dj b c []),kk w.heap.size⟩)
def Sx{m:Nat}(hm:0<m)(w:World):∃i w',(choose (.mapNext m)).run P w= .ok i w'/\i<m/\w'.heap=w.heap/\Ht w w':=by
 by_cases h1:m<=1
 .refine⟨0,w,?_,hm,rfl,Ht.refl w⟩;simp[Question.forced,h1]
 .refine⟨(Question.mapNext m).cut (w.tape w.drawn (.mapNext m)),w.drew,?_,?_,rfl,⟨rfl,rfl,rfl,Nat.le_refl _⟩⟩
  .simp[Question.forced,h1]
  .exact Nat.mod_lt _ hm
def WX.next{r:Nat}{vis:List Me}{K2:Obj->HH}(hx:ev L x=some (.pointer (some ⟨r,0,none⟩)))[hr:Tm r (Dj b c vis) H K2][hf:Tm b (ez l c) H K](ok:Vr l c)(hv:∀z∈vis,z∈l)(hd:Nat.blt d n=true)
  (k1:(∀z∈l,z∈vis)->WX false g P ops Q n rest ((d,.tuple #[.bool false])::L) H)
  (k2:∀z∈l,z∉vis->WX false g P ops Q n rest ((d,.tuple #[.bool true,.int .i64 z.k,z.v])::L) (K2 (Dj b c (vis++[z])))):
  WX false g P ops Q n (⟨some d,.next x false,ty,pos,af,none⟩::rest) L H:=
 WX.xZ hd (λa w ha hw=>by
  have hb:=hf.heap hw;have hr':=hr.heap hw;have h1:=Uh (P:=P) hb;have h2:(getObj r).run P w= .ok (Dj b c vis) w:=Wm hr' rfl
  have GX:∀z∈l,((vis.map (·.born)).toArray.contains z.born=true↔z∈vis):=by
   intro z hz;simp only[contains_toArray,contains_eq_mem,decide_eq_true_eq,mem_map];exact⟨λ⟨u,hu,he⟩=>born_inj ok.bs (hv u hu) hz he▸hu,λhz=>⟨z,hz,rfl⟩⟩
  have EZ:(!(vis.map (·.born)).toArray.isEmpty && !(l.map Me.e).toArray.isEmpty && (l.map Me.e).toArray.all (λe=>decide (e.born>=c)))=false:=by
   cases l with
   |nil=>simp
   |cons y r=>
    have:=ok.lt y qf;have:decide (y.born>=c)=false:=rj (by omega);simp[Me.e,this]
  obtain⟨un,hun⟩:∃un,un=l.filter λz=> !(vis.map (·.born)).toArray.contains z.born:=⟨_,rfl⟩
  have hmem:∀z,z∈un↔z∈l/\z∉vis:=by
   intro z;rw[hun,mem_filter];constructor
   .rintro⟨h3,h4⟩;exact⟨h3,λh5=>by rw[(GX z h3).2 h5] at h4;cases h4⟩
   .rintro⟨h3,h4⟩;refine⟨h3,?_⟩
    cases hc:(vis.map (·.born)).toArray.contains z.born with
    |false=>rfl
    |true=>exact absurd ((GX z h3).1 hc) h4
  have hleft:((l.map Me.e).toArray.filter λe=> !(vis.map (·.born)).toArray.contains e.born)=(un.map Me.e).toArray:=by
   apply Array.toList_inj.1;rw[Array.toList_filter,filter_map,hun];rfl
  have hold:((un.map Me.e).toArray.filter λe=>decide (e.born<c))=(un.map Me.e).toArray:=by
   apply Array.toList_inj.1;rw[Array.toList_filter,filter_eq_self];intro e he;obtain⟨z,hz,rfl⟩:=mem_map.1 he;exact Mi (ok.lt z ((hmem z).1 hz).1)
  have hnew:((un.map Me.e).toArray.filter λe=>decide (e.born>=c))= #[]:=by
   apply Array.toList_inj.1;rw[Array.toList_filter,filter_eq_nil_iff];intro e he;obtain⟨z,hz,rfl⟩:=mem_map.1 he;have:=ok.lt z ((hmem z).1 hz).1;simp[Me.e];omega
  have hsize:0<((if(un.map Me.e).toArray.isEmpty=true then #[none] else #[])++((un.map Me.e).toArray++ #[]).map some).size:=by
   cases un<;>simp
  obtain⟨i,w1,c1,c2,c3,c4⟩:=Sx (P:=P) hsize w
  have key:(Instr.next (.pointer (some ⟨r,0,none⟩)) false ty).run P w=(match((if(un.map Me.e).toArray.isEmpty=true then #[none] else #[])++((un.map Me.e).toArray++ #[]).map some)[i]? with
    |some (some e)=>(do setObj r (.mapIter (some b) c ((vis.map Me.born).toArray.push e.born) c);pure (.tuple #[.bool true,e.key,e.val]):Sem Value)
    |some none=>pure (.tuple #[.bool false])
    |none=>stuck "Next: no such candidate").run P w1:=by
   unfold Instr.next;simp only[Sem.run_bind,h2,Result.andThen_ok,Dj,h1];rw[EZ];simp only[Bool.false_eq_true,if_false,hleft,hold,hnew,Sem.run_bind,c1,Result.andThen_ok];rfl
  cases un with
  |nil=>
   have hi:i=0:=by simp at c2;exact c2
   subst hi;refine⟨.tuple #[.bool false],w1,H,?_,hw.heap c3 c4,k1 λz hz=>Classical.byContradiction λh=>by have:=(hmem z).2 ⟨hz,h⟩;cases this⟩;simp only[execOp,ha.ev hx,Sem.run_bind];rw[key]
   simp
  |cons y rr=>
   have hi:i<(y::rr).length:=by simpa using c2
   obtain⟨z,hz⟩:∃z,(y::rr)[i]? =some z:=⟨_,Wg hi⟩;obtain⟨U9,L6⟩:=(hmem z).1 (mem_of_getElem? hz);have hw1:on g H.flatten w1:=hw.heap c3 c4;obtain⟨w2,e1,e2⟩:=map_set (P:=P) (o':=Dj b c (vis++[z])) hr rfl hw1;refine⟨.tuple #[.bool true,.int .i64 z.k,z.v],w2,_,?_,e2,k2 z U9 L6⟩;simp only[execOp,ha.ev hx,Sem.run_bind];rw[key]
   have W9:((if((y::rr).map Me.e).toArray.isEmpty=true then #[none] else #[])++(((y::rr).map Me.e).toArray++ #[]).map some)[i]? =some (some z.e):=by
    rw[if_neg (by simp)];simp only[append_nil,Array.empty_append,Array.append_empty,Array.getElem?_map,List.getElem?_toArray,List.getElem?_map,hz,Option.map_some]
   rw[W9];have e3:Obj.mapIter (some b) c ((vis.map (·.born)).toArray.push z.e.born) c=Dj b c (vis++[z]):=by simp[Dj,Me.e]
   simp only[e3,Sem.run_bind,e1,Result.andThen_ok,Sem.run_pure];rfl)
def WX.entry{r:Nat}{vis:List Me}{z:Me}{K2:Obj->HH}(hx:ev L x=some (.pointer (some ⟨r,0,none⟩)))[hr:Tm r (Dj b c (vis++[z])) H K2][hf:Tm b (ez l c) H K](ok:Vr l c)(hz:z∈l)(hd:Nat.blt d n=true)
  (kk:WX q g P ops Q n rest ((d,.tuple #[.int .i64 z.k,z.v])::L) H):WX q g P ops Q n (⟨some d,.entry x,ty,pos,af,none⟩::rest) L H:=
 WX.val (λa ha w hw=>by
  have h1:=Uh (P:=P) (hf.heap hw);have h2:(getObj r).run P w= .ok (Dj b c (vis++[z])) w:=Wm (hr.heap hw) rfl;have h3:(((vis++[z]).map (·.born)).toArray).back? =some z.born:=by simp
  have h4:(l.map Me.e).toArray.find? (λe=>e.born==z.born)=some z.e:=by
   rw[List.find?_toArray,List.find?_map]
   have:l.find? ((λe=>e.born==z.born)∘Me.e)=some z:=by
    have hmem:∃u,l.find? ((λe=>e.born==z.born)∘Me.e)=some u:=by
     cases hf:l.find? ((λe=>e.born==z.born)∘Me.e) with
     |some u=>exact⟨u,rfl⟩
     |none=>
      have:=List.find?_eq_none.1 hf z hz;simp[Me.e] at this
    obtain⟨u,hu⟩:=hmem;have h5:=List.find?_some hu;simp only[Function.comp,Me.e,beq_iff_eq] at h5;rw[hu,born_inj ok.bs (mem_of_find?_eq_some hu) hz h5]
   rw[this];rfl
  simp only[execOp,ha.ev hx,Instr.entry,Sem.run_bind,h2,Dj,Result.andThen_ok,h3,h1];simp only[bne_self_eq_false,Bool.false_eq_true,if_false];rw[h4];simp[Me.e]) hd kk
-- function values
def WX.makeFunc{fn:Fn}{first captured:List Operand}{fs cs:List Value}(h1:My L first=some fs)(h2:My L captured=some cs)(hd:Nat.blt d n=true)(kk:WX q g P ops Q n rest ((d,.func fn fs.toArray cs.toArray)::L) H):
  WX q g P ops Q n (⟨some d,.makeFunc fn first.toArray captured.toArray,ty,pos,af,none⟩::rest) L H:=
 WX.val (λa ha w hw=>by
  have e1:first.toArray.map a.eval=fs.toArray:=by rw[<-ha.My h1];simp
  have e2:captured.toArray.map a.eval=cs.toArray:=by rw[<-ha.My h2];simp
  simp only[execOp,e1,e2,Instr.makeFunc,Sem.run_bind,Sem.run_pure,Result.andThen_ok]) hd kk
def LA{f:FuncId}{args:List Operand}{ts:Array TypeId}{a:Act}{vs fs cs:List Value}{u:Operand}{w:World}{dst:Option Nat}(hn:Enters P f)(hu:a.eval u= .func (.func f) fs.toArray cs.toArray)(hx:args.map a.eval=vs):
  (execOp a.eval ⟨dst,.call ⟨.value u,args.toArray,ts⟩,ty,pos,af,none⟩).run P w= .ok (.enter f (fs++vs++cs).toArray) w:=by
 have e:args.toArray.map a.eval=vs.toArray:=by rw[<-hx];simp
 simp only[execOp,resolve,e,hu];simp[Deferred.ofValue,invoke,Wo hn]
def WX.Yp{f:FuncId}{args:List Operand}{ts:Array TypeId}{vs fs cs:List Value}{u:Operand}{pre Hr:HH}{post:Value->HH->Prop}(hu:ev L u=some (.func (.func f) fs.toArray cs.toArray))(hx:My L args=some vs)[hn:Enters P f](hc:Ct P f (fs++vs++cs) pre post)[pk:Oc pre H Hr]
  (hd:Nat.blt d n=true)(k:∀v H',post v H'->WX false g P ops Q n rest ((d,v)::L) (H'++Hr)):WX false g P ops Q n (⟨some d,.call ⟨.value u,args.toArray,ts⟩,ty,pos,af,none⟩::rest) L H:=by
 refine .mk λa w ha hw=>?_;have hd':d<n:=Nat.le_of_ble_eq_true hd;refine wpList_plain rfl λK hK=>?_;unfold Oper.wp;rw[LA hn (ha.ev hu) (ha.My hx)];refine(hc.calls g Hr.flatten w (hw.perm (by simpa using pk.p))).mono λe w' ⟨v,H',he,hp,ho⟩=>?_;subst he;exact hK _ _ (k v H' hp _ _ (ha.put hd' v) (by simpa using ho))
end
end Go.Sl
namespace Go.Sl
open Go
section
variable{g:World}{P:Program}{ops:Array Oper}{Q:Exit->Act->World->Prop}{n:Nat}{L:Fm}{H:HH}{C:World->Prop}{tail:List Oper}{z:List (Bool×Oper)}{o:Oper}
variable{d:Nat}{ty:TypeId}{pos:String}{af:Array Edge}{v:Value}
def Cf(g:World){ι:Type}(Hf:ι->HH):World->Prop:=λw=>∃i,on g (Hf i).flatten w
structure WN(g:World)(P:Program)(ops:Array Oper)(Q:Exit->Act->World->Prop)(n:Nat)(C:World->Prop)(tail:List Oper)(z:List (Bool×Oper))(L:Fm)(H:HH):Prop where
 run:∀a w,Fr n L a->on g H.flatten w->yq P ops C Q tail z a w
def FZ(g:World)(P:Program)(ops:Array Oper)(Q:Exit->Act->World->Prop)(C:World->Prop)(tail:List Oper)(z:List (Bool×Oper))(H:HH):Exit->Act->World->Prop:=
 λ_ a _=>∀w,on g H.flatten w->yq P ops C Q tail z a w
def JW(P:Program)(ops:Array Oper)(Q:Exit->Act->World->Prop)(C:World->Prop)(tail:List Oper)(z:List (Bool×Oper)):Exit->Act->World->Prop
 | .normal,a,w=>C w/\yq P ops C Q tail z a w
 |_,_,_=>False
def W.aV{id:Nat}{l:List Oper}(ms:List Bool)(C:World->Prop)(hC:∀w,on g H.flatten w->C w)(hm:P.follows .mixedOrders=true)(hB:RQ .any l.toArray ms=true)(h:WN g P l.toArray Q n C (l.drop ms.length) (ms.zip l) L H):
  W g P (.region id l.toArray true) Q n L H:= .mk λa w ha hw=>
 have hd:on g H.flatten w.drew:=hw.heap rfl ⟨rfl,rfl,rfl,Nat.le_refl _⟩
 Nr (C:=C) ms hm hB (hC _ hd) (h.run a _ ha hd)
def WN.nil(h:WX false g P ops Q n tail L H):WN g P ops Q n C tail [] L H:=⟨λa w ha hw=>h a w ha hw⟩
def WN.P5[nv:NV P o](hc:∀w,C w->Ht g w)(h:WX true g P ops (FZ g P ops Q C tail z H) n [o] L []):WN g P ops Q n C tail ((true,o)::z) L H:=⟨λa w ha hw=>by
 have hon:∀w',Ht g w'->on g (List.flatten []) w':=λw' h=>⟨h,by simp,by simp⟩;have h1:wpQuiet P ops (on g (List.flatten [])) (λa'=>∀w',on g (List.flatten []) w'->FZ g P ops Q C tail z H .normal a' w') [o] a:=h a w ha (hon w hw.1);simp only[wpQuiet] at h1;by_cases Xo:Region.wanted o (yielded ops a.tmps)=true
 .rw[if_pos Xo] at h1;obtain⟨v,hv,hK⟩:=h1;refine⟨v,.inl ⟨Xo,λw' Oi=>?_⟩,hK w (hon w hw.1) w hw⟩;have h2:=hv w' (hon w' (hc w' Oi));unfold Oper.quietAt at h2
  cases hr:(execOp a.eval o).run P w' with
  |halt x w1=>rw[hr] at h2;exact h2.elim
  |ok nx w1=>
   obtain⟨u,rfl⟩:=nv.h a w' nx w1 hr;rw[hr] at h2;obtain⟨rfl,rfl⟩:=h2;rfl
 .rw[if_neg Xo] at h1;exact⟨undef,.inr ⟨by simpa using Xo,rfl⟩,h1 w (hon w hw.1) w hw⟩⟩
def WN.OM(h:WN g P ops Q n C tail z L H){H':HH}:D g (FZ g P ops Q C tail z H) .normal n L H':= .mk λa w ha _ w' Oi=>h.run a w' ha Oi
def WN.load{x:Operand}{t b i:Nat}(hx:ev L x=some (.pointer (some ⟨b,i,none⟩)))[ht:TL P t 1 false](hc:∀w,C w->w.cell? ⟨b,i,none⟩=some v)(hd:Nat.blt d n=true)(kk:WN g P ops Q n C tail z ((d,v)::L) H):
  WN g P ops Q n C tail ((true,⟨some d,.load t x,ty,pos,af,none⟩)::z) L H:=⟨λa w ha hw=>by
 refine⟨v,.inl ⟨rfl,λw' Oi=>?_⟩,kk.run _ w (ha.put (Nat.le_of_ble_eq_true hd) v) hw⟩;simp[execOp,ha.ev hx,Instr.loadAt,Instr.sureAddr,loadVar,ht.isAgg,hc w' Oi]⟩
def WN.an[nd:ND P o](h:WX false g P ops (JW P ops Q C tail z) n [o] L H):WN g P ops Q n C tail ((false,o)::z) L H:=⟨λa w ha hw=>by
 have h1:wpList P ops (JW P ops Q C tail z) [o] a w:=h a w ha hw;have hout: ¬LetsOut (JW P ops Q C tail z):=λ⟨_,_,h⟩=>h;simp only[wpList] at h1;show Yu P ops o _ a w;by_cases Xo:Region.wanted o (yielded ops a.tmps)=true
 .rw[if_pos Xo] at h1;rcases h1 with h1|⟨_,h1⟩
  .refine .inr ⟨Xo,?_⟩;unfold Oper.wp at h1
   cases hr:(execOp a.eval o).run P w with
   |halt x w1=>
    rw[hr] at h1
    cases x<;>exact h1.elim
   |ok nx w1=>
    rw[hr] at h1;rcases nd.h a w nx w1 hr with⟨v,rfl⟩|rfl|⟨f,args,rfl⟩
    .exact .inl ⟨v,w1,rfl,h1⟩
    .exact .inr (.inl ⟨w1,rfl,h1⟩)
    .refine .inr (.inr ⟨f,args,w1,rfl,?_⟩);refine Calls.mono h1 λe w'' he=>?_
     cases e with
     |returned v=>exact⟨v,rfl,he⟩
     |panicked ch=>exact he.elim
     |outgrown=>exact(hout he).elim
  .exact(hout h1).elim
 .rw[if_neg Xo] at h1;exact .inl ⟨by simpa using Xo,h1⟩⟩
def WN.back{H:HH}(hC:∀w,on g H.flatten w->C w)(h:WN g P ops Q n C tail z L H):D g (JW P ops Q C tail z) .normal n L H:= .mk λa w ha hw=>⟨hC w hw,h.run a w ha hw⟩
instance NV.lookup{gd:Option (Nat×Bool)}{d:Option Nat}{t:Nat}{x y:Operand}{b:Bool}:NV P ⟨d,.lookup t x y b,ty,pos,af,gd⟩:=⟨λ_ _ _ _ h=>cr h⟩
def Cf.Q5{ι:Type}{Hf:ι->HH}{w:World}(h:Cf g Hf w):Ht g w:=let⟨_,h⟩:=h;h.1
def Cf.of{ι:Type}{Hf:ι->HH}{w:World}(i:ι){r:HH}[k:Oc (Hf i) H r](h:on g H.flatten w):Cf g Hf w:=⟨i,(Ia.qa k).on h⟩
end
end Go.Sl
namespace Go.Sl
open Go List
section
variable{P:Program}{ops:Array Oper}{md:Region.Mode}{C:World->Prop}{un:Nat->Bool}{L:Array Bool->Act->World->Prop}
structure DK(md:Region.Mode)(ops:Array Oper)(m:Nat):Prop where
 Vd:∀(j:Nat) (o:Oper) cs b,ops[j]? =some o->o.op≠ .select cs b
 sink:∀i t,i<m->m<=t->t<ops.size->∃f,waits md ops f t i=true
def DK.ok{m:Nat}(h:DK md ops m):Bx md ops (λ_=>true) m:=⟨h.Vd,(λi j _ _ hi=>by cases hi),h.sink⟩
def AM.oG{m k:Nat}{ok:Oper}{u:Value}(ms:DK md ops m)(hk:ops[k]? =some ok)(hun:un k=true)(hkm:k<m)(hdone:∀listed a w,L listed a w->∀j∈Region.ready md ops listed,m<=j):
  ∀(f:Nat) (listed:Array Bool) (a:Act) (w:World),Og md ops listed->
   (∀j oj,ops[j]? =some oj->j≠k->listed.getD j true=false->(∀e∈oj.after,Region.binds md e=true->e.on≠k)->ok.apart ops oj=true)->
   k∈Region.ready md ops listed->Rx P ops C ok u a->AM P md ops C un L f (listed.setIfInBounds k true) (a.put ok.dst u) w->AM P md ops C un L (f+1) listed a w:=by
 intro f
 induction f with
 |zero=>
  intro listed a w hc _ hr hy H;have nj:=(mem_ready.1 hr).1;refine⟨H.1,λh=>(by rw[h] at hr;cases hr),λj hj=>?_⟩;by_cases hjk:j=k
  .subst hjk;refine⟨ok,hk,?_⟩;rw[hun];exact⟨u,hy,H⟩
  .have h1:=hdone _ _ _ H.2 j (ready_mono hj hjk);have h2:=Rk ms.ok hc hkm nj hj
   omega
 |succ f ih=>
  intro listed a w hc hfree hr hy H;have nj:=(mem_ready.1 hr).1;refine⟨H.1,λh=>(by rw[h] at hr;cases hr),λj hj=>?_⟩;by_cases hjk:j=k
  .subst hjk;refine⟨ok,hk,?_⟩;rw[hun];exact⟨u,hy,H⟩
  .obtain⟨o,ho,h2⟩:=H.2.2 j (ready_mono hj hjk);obtain⟨ym,oj,br,hall⟩:=mem_ready.1 hj;have:o=oj:=Option.some.inj (ho.symm.trans br);subst this
   have hno:∀e∈o.after,Region.binds md e=true->e.on≠k:=λe he hb heq=>by
    have h1:=hall e he hb;rw[heq,getD_both nj] at h1;cases h1
   have hap:=hfree j o br hjk ym hno;obtain⟨q1,q2,q3⟩:=Oper.apart_spec hap;have Ys:∀cs b,o.op≠ .select cs b:=λcs b=>ms.Vd j o cs b br;have EA:∀cs b,ok.op≠ .select cs b:=λcs b=>ms.Vd k ok cs b hk
   have Gi:∀i oi,ops[i]? =some oi->i≠k->(listed.setIfInBounds j true).getD i true=false->(∀e∈oi.after,Region.binds md e=true->e.on≠k)->ok.apart ops oi=true:=λi oi hi hik hl hn=>by
    refine hfree i oi hi hik ?_ hn;by_cases hji:j=i
    .subst hji;exact ym
    .rwa [getD_set_ne true hji] at hl
   have Yj:=hc.set hj;have hr':=ready_mono hr (Ne.symm hjk);have CX:∀v,Rx P ops C ok u (a.put o.dst v):=λv=>hy.same (execOp_put ok EA a o.dst v λd hd=>q3 d hd) (wanted_put ok a o.dst v λd hd=>q3 d hd);refine⟨o,br,?_⟩
   cases Zu:un j with
   |true=>
    rw[Zu] at h2;obtain⟨v,hv,h3⟩:=h2;refine⟨v,hv.same (execOp_put o Ys a ok.dst u λd hd=>q1 d hd).symm (wanted_put o a ok.dst u λd hd=>q1 d hd).symm,ih _ _ _ Yj Gi hr' (CX v) ?_⟩;rw[Array.setIfInBounds_comm _ _ hjk,<-Act.put_comm a u v q2]
    exact h3
   |false=>
    rw[Zu] at h2;refine(h2.same (execOp_put o Ys a ok.dst u λd hd=>q1 d hd).symm (wanted_put o a ok.dst u λd hd=>q1 d hd).symm).mono λv w' h3=>?_;refine ih _ _ _ Yj Gi hr' (CX v) ?_;rw[Array.setIfInBounds_comm _ _ hjk,<-Act.put_comm a u v q2];exact h3
def AM.jQ{m k:Nat}{ok:Oper}(ms:DK md ops m)(hk:ops[k]? =some ok)(hun:un k=false)(hkm:k<m)(hdone:∀listed a w,L listed a w->∀j∈Region.ready md ops listed,m<=j):
  ∀(f:Nat) (listed:Array Bool) (a:Act) (w:World),Og md ops listed->C w->
   (∀j oj,ops[j]? =some oj->j≠k->listed.getD j true=false->(∀e∈oj.after,Region.binds md e=true->e.on≠k)->ok.apart ops oj=true)->
   (∀i,i≠k->i<m->un i=false->listed.getD i true=false->∃f,waits md ops f i k=true)->
   k∈Region.ready md ops listed->Yu P ops ok (λv w'=>AM P md ops C un L f (listed.setIfInBounds k true) (a.put ok.dst v) w') a w->AM P md ops C un L (f+1) listed a w:=by
 intro f
 induction f with
 |zero=>
  intro listed a w hc wK _ _ hr H;have nj:=(mem_ready.1 hr).1;refine⟨wK,λh=>(by rw[h] at hr;cases hr),λj hj=>?_⟩;by_cases hjk:j=k
  .subst hjk;refine⟨ok,hk,?_⟩;rw[hun];exact H
  .obtain⟨v0,w0,H0⟩:=H.ex;have h1:=hdone _ _ _ H0.2 j (ready_mono hj hjk);have h2:=Rk ms.ok hc hkm nj hj
   omega
 |succ f ih=>
  intro listed a w hc wK hfree hpre hr H;have nj:=(mem_ready.1 hr).1;refine⟨wK,λh=>(by rw[h] at hr;cases hr),λj hj=>?_⟩;by_cases hjk:j=k
  .subst hjk;refine⟨ok,hk,?_⟩;rw[hun];exact H
  .obtain⟨ym,o,br,hall⟩:=mem_ready.1 hj;have hjm:=Rk ms.ok hc hkm nj hj
   have Zu:un j=true:=by
    cases Zu:un j with
    |true=>rfl
    |false=>
     obtain⟨f0,ey⟩:=hpre j hjk hjm Zu ym;have:=yj hc hj ey;rw[getD_both nj] at this;cases this
   have hno:∀e∈o.after,Region.binds md e=true->e.on≠k:=λe he hb heq=>by
    have h1:=hall e he hb;rw[heq,getD_both nj] at h1;cases h1
   have hap:=hfree j o br hjk ym hno;obtain⟨q1,q2,q3⟩:=Oper.apart_spec hap;have Ys:∀cs b,o.op≠ .select cs b:=λcs b=>ms.Vd j o cs b br;have EA:∀cs b,ok.op≠ .select cs b:=λcs b=>ms.Vd k ok cs b hk
   have Gi:∀i oi,ops[i]? =some oi->i≠k->(listed.setIfInBounds j true).getD i true=false->(∀e∈oi.after,Region.binds md e=true->e.on≠k)->ok.apart ops oi=true:=λi oi hi hik hl hn=>by
    refine hfree i oi hi hik ?_ hn;by_cases hji:j=i
    .subst hji;exact ym
    .rwa [getD_set_ne true hji] at hl
   have Yj:=hc.set hj;have hr':=ready_mono hr (Ne.symm hjk)
   have Cx:∀i,i≠k->i<m->un i=false->(listed.setIfInBounds j true).getD i true=false->∃f,waits md ops f i k=true:=λi h1 h2 h3 h4=>by
    by_cases hji:j=i
    .subst hji;rw[Zu] at h3;cases h3
    .rw[getD_set_ne true hji] at h4;exact hpre i h1 h2 h3 h4
   have key:∀v w',AM P md ops C un L (f+1) (listed.setIfInBounds k true) (a.put ok.dst v) w'->∃u,Rx P ops C o u a/\AM P md ops C un L f ((listed.setIfInBounds j true).setIfInBounds k true) ((a.put o.dst u).put ok.dst v) w':=λv w' h=>by
    obtain⟨o',ho',h2⟩:=h.2.2 j (ready_mono hj hjk);have:o'=o:=Option.some.inj (ho'.symm.trans br);subst this;rw[Zu] at h2;obtain⟨u,hu,h3⟩:=h2;refine⟨u,hu.same (execOp_put o' Ys a ok.dst v λd hd=>q1 d hd).symm (wanted_put o' a ok.dst v λd hd=>q1 d hd).symm,?_⟩;rw[Array.setIfInBounds_comm _ _ hjk,<-Act.put_comm a v u q2];exact h3
   obtain⟨v0,w0,H0⟩:=H.ex;obtain⟨u,hu,_⟩:=key v0 w0 H0;refine⟨o,br,?_⟩;rw[Zu];refine⟨u,hu,ih _ _ _ Yj wK Gi Cx hr' ?_⟩;refine(H.mono λv w' h=>?_).same (execOp_put ok EA a o.dst u λd hd=>q3 d hd) (wanted_put ok a o.dst u λd hd=>q3 d hd);obtain⟨u',GW,h4⟩:=key v w' h;have:u'=u:=Rx.uniq wK GW hu;subst this;exact h4
def AM.JZ{m k z:Nat}{ok oz:Oper}(ms:DK md ops m)(hk:ops[k]? =some ok)(hz:ops[z]? =some oz)(hun:un k=false)(Z9:un z=false)(hkm:k<m)(hkz:k≠z)(hdone:∀listed a w,L listed a w->∀j∈Region.ready md ops listed,m<=j)(hzm:z<m):
  ∀(f:Nat) (listed:Array Bool) (a:Act) (w:World),Og md ops listed->C w->
   (∀j oj,ops[j]? =some oj->j≠k->listed.getD j true=false->(∀e∈oj.after,Region.binds md e=true->e.on≠k)->ok.apart ops oj=true)->
   (∀j oj,ops[j]? =some oj->j≠z->listed.getD j true=false->(∀e∈oj.after,Region.binds md e=true->e.on≠z)->oz.apart ops oj=true)->
   (∀i,i≠k->i≠z->i<m->un i=false->listed.getD i true=false->∃f,waits md ops f i k=true)->
   k∈Region.ready md ops listed->z∈Region.ready md ops listed->Yu P ops ok (λv w'=>AM P md ops C un L f (listed.setIfInBounds k true) (a.put ok.dst v) w') a w->
   Yu P ops oz (λv w'=>AM P md ops C un L f (listed.setIfInBounds z true) (a.put oz.dst v) w') a w->AM P md ops C un L (f+1) listed a w:=by
 intro f
 induction f with
 |zero=>
  intro listed a w hc wK _ _ _ hr R0 H Hz;obtain⟨v0,w0,H0⟩:=H.ex;have h1:=hdone _ _ _ H0.2 z (ready_mono R0 (λe=>hkz e.symm))
  omega
 |succ f ih=>
  intro listed a w hc wK hfree pU hpre hr R0 H Hz;have nj:=(mem_ready.1 hr).1;have aaa:=(mem_ready.1 R0).1;refine⟨wK,λh=>(by rw[h] at hr;cases hr),λj hj=>?_⟩;by_cases hjk:j=k
  .subst hjk;refine⟨ok,hk,?_⟩;rw[hun];exact H
  by_cases S0:j=z
  .subst S0;refine⟨oz,hz,?_⟩;rw[Z9];exact Hz
  obtain⟨ym,o,br,hall⟩:=mem_ready.1 hj;have hjm:=Rk ms.ok hc hkm nj hj
  have Zu:un j=true:=by
   cases Zu:un j with
   |true=>rfl
   |false=>
    obtain⟨f0,ey⟩:=hpre j hjk S0 hjm Zu ym;have:=yj hc hj ey;rw[getD_both nj] at this;cases this
  have hno:∀e∈o.after,Region.binds md e=true->e.on≠k:=λe he hb heq=>by
   have h1:=hall e he hb;rw[heq,getD_both nj] at h1;cases h1
  have baa:∀e∈o.after,Region.binds md e=true->e.on≠z:=λe he hb heq=>by
   have h1:=hall e he hb;rw[heq,getD_both aaa] at h1;cases h1
  obtain⟨q1,q2,q3⟩:=Oper.apart_spec (hfree j o br hjk ym hno);obtain⟨p1,p2,p3⟩:=Oper.apart_spec (pU j o br S0 ym baa);have Ys:∀cs b,o.op≠ .select cs b:=λcs b=>ms.Vd j o cs b br;have EA:∀cs b,ok.op≠ .select cs b:=λcs b=>ms.Vd k ok cs b hk;have caa:∀cs b,oz.op≠ .select cs b:=λcs b=>ms.Vd z oz cs b hz
  have Gi:∀i oi,ops[i]? =some oi->i≠k->(listed.setIfInBounds j true).getD i true=false->(∀e∈oi.after,Region.binds md e=true->e.on≠k)->ok.apart ops oi=true:=λi oi hi hik hl hn=>by
   refine hfree i oi hi hik ?_ hn;by_cases hji:j=i
   .subst hji;exact ym
   .rwa [getD_set_ne true hji] at hl
  have NW:∀i oi,ops[i]? =some oi->i≠z->(listed.setIfInBounds j true).getD i true=false->(∀e∈oi.after,Region.binds md e=true->e.on≠z)->oz.apart ops oi=true:=λi oi hi hik hl hn=>by
   refine pU i oi hi hik ?_ hn;by_cases hji:j=i
   .subst hji;exact ym
   .rwa [getD_set_ne true hji] at hl
  have Yj:=hc.set hj;have hr':=ready_mono hr (Ne.symm hjk);have OW:=ready_mono R0 (Ne.symm S0)
  have Cx:∀i,i≠k->i≠z->i<m->un i=false->(listed.setIfInBounds j true).getD i true=false->∃f,waits md ops f i k=true:=λi h1 h2 h3 h4 h5=>by
   by_cases hji:j=i
   .subst hji;rw[Zu] at h4;cases h4
   .rw[getD_set_ne true hji] at h5;exact hpre i h1 h2 h3 h4 h5
  have key:∀v w',AM P md ops C un L (f+1) (listed.setIfInBounds k true) (a.put ok.dst v) w'->∃u,Rx P ops C o u a/\AM P md ops C un L f ((listed.setIfInBounds j true).setIfInBounds k true) ((a.put o.dst u).put ok.dst v) w':=λv w' h=>by
   obtain⟨o',ho',h2⟩:=h.2.2 j (ready_mono hj hjk);have:o'=o:=Option.some.inj (ho'.symm.trans br);subst this;rw[Zu] at h2;obtain⟨u,hu,h3⟩:=h2;refine⟨u,hu.same (execOp_put o' Ys a ok.dst v λd hd=>q1 d hd).symm (wanted_put o' a ok.dst v λd hd=>q1 d hd).symm,?_⟩;rw[Array.setIfInBounds_comm _ _ hjk,<-Act.put_comm a v u q2];exact h3
  have daa:∀v w',AM P md ops C un L (f+1) (listed.setIfInBounds z true) (a.put oz.dst v) w'->∃u,Rx P ops C o u a/\AM P md ops C un L f ((listed.setIfInBounds j true).setIfInBounds z true) ((a.put o.dst u).put oz.dst v) w':=λv w' h=>by
   obtain⟨o',ho',h2⟩:=h.2.2 j (ready_mono hj S0);have:o'=o:=Option.some.inj (ho'.symm.trans br);subst this;rw[Zu] at h2;obtain⟨u,hu,h3⟩:=h2;refine⟨u,hu.same (execOp_put o' Ys a oz.dst v λd hd=>p1 d hd).symm (wanted_put o' a oz.dst v λd hd=>p1 d hd).symm,?_⟩;rw[Array.setIfInBounds_comm _ _ S0,<-Act.put_comm a v u p2];exact h3
  obtain⟨v0,w0,H0⟩:=H.ex;obtain⟨u,hu,_⟩:=key v0 w0 H0;refine⟨o,br,?_⟩;rw[Zu];refine⟨u,hu,ih _ _ _ Yj wK Gi NW Cx hr' OW ?_ ?_⟩
  .refine(H.mono λv w' h=>?_).same (execOp_put ok EA a o.dst u λd hd=>q3 d hd) (wanted_put ok a o.dst u λd hd=>q3 d hd);obtain⟨u',GW,h4⟩:=key v w' h;have:u'=u:=Rx.uniq wK GW hu;subst this;exact h4
  .refine(Hz.mono λv w' h=>?_).same (execOp_put oz caa a o.dst u λd hd=>p3 d hd) (wanted_put oz a o.dst u λd hd=>p3 d hd);obtain⟨u',GW,h4⟩:=daa v w' h;have:u'=u:=Rx.uniq wK GW hu;subst this;exact h4
inductive Al(ops:Array Oper)(un:Nat->Bool):List Nat->List (Bool×Oper)->Prop
 |nil:Al ops un [] []
 |cons {k:Nat} {x:Bool×Oper} {ks:List Nat} {z:List (Bool×Oper)} (h:ops[k]? =some x.2) (hu:un k=x.1) (t:Al ops un ks z):Al ops un (k::ks) (x::z)
def Al.app{ks ks':List Nat}{z z':List (Bool×Oper)}(h:Al ops un ks z)(h':Al ops un ks' z'):Al ops un (ks++ks') (z++z'):=by
 induction h with
 |nil=>exact h'
 |cons a b _ ih=>exact .cons a b ih
def Al.of:∀(z:List (Bool×Oper)) (k:Nat),(∀j x,z[j]? =some x->ops[k+j]? =some x.2/\un (k+j)=x.1)->Al ops un (List.range' k z.length) z
 |[],k,_=> .nil
 |x::z,k,h=>by
  rw[Ib,List.range'_succ];obtain⟨h1,h2⟩:=h 0 x rfl;refine .cons h1 h2 (Al.of z (k+1) λj y hy=>?_);have:=h (j+1) y (by simpa using hy);rwa [show k+(j+1)=k+1+j by omega] at this
def qt(nn:Nat)(md:Region.Mode)(ops:Array Oper)(un:Nat->Bool)(m:Nat)(listed:Array Bool)(k z:Nat):Bool:=
 (List.range m).all λj=>j==k||j==z||un j||listed.getD j true||waits md ops nn j k
def Lp{nn m:Nat}{listed:Array Bool}{k z:Nat}(h:qt nn md ops un m listed k z=true):∀i,i≠k->i≠z->i<m->un i=false->listed.getD i true=false->∃f,waits md ops f i k=true:=λi h1 h2 h3 h4 h5=>by
 have:=all_eq_true.1 h i (mem_range.2 h3);simp only[Bool.or_eq_true,beq_iff_eq,h1,h2,h4,h5,false_or,Bool.false_eq_true] at this;exact⟨nn,this⟩
def j5(nn:Nat)(md:Region.Mode)(ops:Array Oper)(un:Nat->Bool)(m gg:Nat):List Nat->Array Bool->Bool
 |[],listed=>Region.seqB md ops gg m listed
 |k::r,listed=>(Region.ready md ops listed).contains k && Region.free md ops listed k && decide (k<m) && (un k||qt nn md ops un m listed k k) && j5 nn md ops un m gg r (listed.setIfInBounds k true)
def fO{nn m gg:Nat}{Q:Exit->Act->World->Prop}{tail:List Oper}(ms:DK md ops m){ks:List Nat}{z:List (Bool×Oper)}(al:Al ops un ks z):∀(listed:Array Bool) (a:Act) (w:World),
  Og md ops listed->j5 nn md ops un m gg ks listed=true->C w->yq P ops C Q tail z a w->
  AM P md ops C un (λFf a' w'=>Region.seqB md ops gg m Ff=true/\wpList P ops Q tail a' w') ks.length listed a w:=by
 induction al with
 |nil=>exact λlisted a w _ hB hc h=>⟨hc,hB,h⟩
 | @cons k x ks z h0 h1 t ih=>
  intro listed a w Ah hB hc h;obtain⟨b,o⟩:=x;simp only[j5,Bool.and_eq_true,decide_eq_true_eq] at hB;obtain⟨⟨⟨⟨hr,hf⟩,hkm⟩,hw⟩,DX⟩:=hB;have hr':k∈Region.ready md ops listed:=by simpa using hr
  have hdone:∀(Ff:Array Bool) (a':Act) (w':World),(Region.seqB md ops gg m Ff=true/\wpList P ops Q tail a' w')->∀j∈Region.ready md ops Ff,m<=j:=λFf a' w' hL=>seqB_ready hL.1
  cases b with
  |true=>
   obtain⟨u,hu,h2⟩:=h
   exact AM.oG ms h0 h1 hkm hdone _ _ _ _ Ah (Region.free_spec h0 hf) hr' hu (ih _ _ _ (Ah.set hr') DX hc h2)
  |false=>
   have HU:un k=false:=h1;rw[HU,Bool.false_or] at hw;have Oi:=Lp hw;refine AM.jQ ms h0 h1 hkm hdone _ _ _ _ Ah hc (Region.free_spec h0 hf) (λi g1 g2 g3 g4=>Oi i g1 g1 g2 g3 g4) hr' ?_;exact Yu.mono h λv w' h2=>ih _ _ _ (Ah.set hr') DX h2.1 h2.2
def EK(P:Program)(ops:Array Oper)(C:World->Prop)(Q:Exit->Act->World->Prop)(tail:List Oper)(oz:Oper)(z2:List (Bool×Oper)):List (Bool×Oper)->Act->World->Prop
 |[],a,w=>Yu P ops oz (λv w'=>C w'/\yq P ops C Q tail z2 (a.put oz.dst v) w') a w
 |(true,o)::r,a,w=>∃u,Rx P ops C o u a/\EK P ops C Q tail oz z2 r (a.put o.dst u) w
 |(false,o)::r,a,w=>Yu P ops oz (λv w'=>C w'/\yq P ops C Q tail ((false,o)::(r++z2)) (a.put oz.dst v) w') a w/\Yu P ops o (λv w'=>C w'/\EK P ops C Q tail oz z2 r (a.put o.dst v) w') a w
def PW(nn:Nat)(md:Region.Mode)(ops:Array Oper)(un:Nat->Bool)(m gg zi:Nat)(QK:List Nat):List Nat->Array Bool->Bool
 |[],listed=>j5 nn md ops un m gg (zi::QK) listed
 |k::r,listed=>(Region.ready md ops listed).contains k && Region.free md ops listed k && decide (k<m) && PW nn md ops un m gg zi QK r (listed.setIfInBounds k true) &&
   (un k||(!(k==zi) && (Region.ready md ops listed).contains zi && Region.free md ops listed zi && qt nn md ops un m listed k zi && j5 nn md ops un m gg (k::(r++QK)) (listed.setIfInBounds zi true)))
def eaa{nn m gg zi:Nat}{oz:Oper}{Q:Exit->Act->World->Prop}{tail:List Oper}(ms:DK md ops m)(hz:ops[zi]? =some oz)(hzu:un zi=false)(hzm:zi<m){QK:List Nat}{z2:List (Bool×Oper)}(S6:Al ops un QK z2){ks:List Nat}{z:List (Bool×Oper)}(al:Al ops un ks z):∀(listed:Array Bool) (a:Act) (w:World),
  Og md ops listed->PW nn md ops un m gg zi QK ks listed=true->C w->EK P ops C Q tail oz z2 z a w->
  AM P md ops C un (λFf a' w'=>Region.seqB md ops gg m Ff=true/\wpList P ops Q tail a' w') (ks.length+(QK.length+1)) listed a w:=by
 induction al with
 |nil=>
  intro listed a w Ah hB hc h;rw[show([]:List Nat).length+(QK.length+1)=(zi::QK).length from Nat.zero_add _]
  exact fO ms (.cons (x:=(false,oz)) hz hzu S6) listed a w Ah hB hc h
 | @cons k x ks z h0 h1 t ih=>
  intro listed a w Ah hB hc h;obtain⟨b,o⟩:=x;simp only[PW,Bool.and_eq_true,decide_eq_true_eq] at hB;obtain⟨⟨⟨⟨hr,hf⟩,hkm⟩,DX⟩,hw⟩:=hB;have hr':k∈Region.ready md ops listed:=by simpa using hr
  have hdone:∀(Ff:Array Bool) (a':Act) (w':World),(Region.seqB md ops gg m Ff=true/\wpList P ops Q tail a' w')->∀j∈Region.ready md ops Ff,m<=j:=λFf a' w' hL=>seqB_ready hL.1;rw[show(k::ks).length+(QK.length+1)=(ks.length+(QK.length+1))+1 by rw[Ib];omega]
  cases b with
  |true=>
   obtain⟨u,hu,h2⟩:=h
   exact AM.oG ms h0 h1 hkm hdone _ _ _ _ Ah (Region.free_spec h0 hf) hr' hu (ih _ _ _ (Ah.set hr') DX hc h2)
  |false=>
   have HU:un k=false:=h1;rw[HU,Bool.false_or] at hw;simp only[Bool.and_eq_true,Bool.not_eq_true',beq_eq_false_iff_ne] at hw;obtain⟨⟨⟨⟨hkz,R0⟩,hfz⟩,how⟩,hBz⟩:=hw;have OW:zi∈Region.ready md ops listed:=by simpa using R0
   obtain⟨ha,hb⟩:=h;refine AM.JZ ms h0 hz HU hzu hkm hkz hdone hzm _ _ _ _ Ah hc (Region.free_spec h0 hf) (Region.free_spec hz hfz) (Lp how) hr' OW ?_ ?_
   .exact Yu.mono hb λv w' h2=>ih _ _ _ (Ah.set hr') DX h2.1 h2.2
   .refine Yu.mono ha λv w' h2=>?_;have:=fO (nn:=nn) (gg:=gg) ms (Al.cons (x:=(false,o)) h0 HU (t.app S6)) _ _ _ (Ah.set OW) hBz h2.1 h2.2;rwa [show(k::(ks++QK)).length=ks.length+(QK.length+1) by rw[Ib,Eb];omega] at this
def Pt(nn:Nat)(md:Region.Mode)(ops:Array Oper)(ms:List Bool)(zi:Nat):Bool:=
 Region.noSelect ops && decide (ms.length<=ops.size) && decide (zi<ms.length) && !(ms.getD zi true) &&
 ((List.range ops.size).all λt=>decide (t<ms.length)||(List.range ms.length).all λi=>waits md ops nn t i) &&
 PW nn md ops (λi=>ms.getD i true) ms.length (ops.size - ms.length) zi (List.range' (zi+1) (ms.length - (zi+1))) (List.range' 0 zi) (Array.replicate ops.size false)
def OA{nn:Nat}{id:Nat}{Q:Exit->Act->World->Prop}{a:Act}{w:World}{l:List Oper}(ms:List Bool)(zi:Nat){oz:Oper}(hm:P.follows .mixedOrders=true)(hB:Pt nn .any l.toArray ms zi=true)(hC:C w.drew)(hz:l[zi]? =some oz)
  (h:EK P l.toArray C Q (l.drop ms.length) oz ((ms.zip l).drop (zi+1)) ((ms.zip l).take zi) a w.drew):(Code.region id l.toArray true).wp P Q a w:=by
 simp only[Pt,Bool.and_eq_true,decide_eq_true_eq,Bool.not_eq_true'] at hB;obtain⟨⟨⟨⟨⟨h1,h2⟩,h3⟩,h4⟩,h5⟩,h6⟩:=hB
 have mS:DK .any l.toArray ms.length:=⟨Region.noSelect_spec h1,λi t hi ht hts=>by
  have:=all_eq_true.1 h5 t (mem_range.2 hts);simp only[Bool.or_eq_true,decide_eq_true_eq] at this;rcases this with h|h
  .omega
  .exact⟨nn,all_eq_true.1 h i (mem_range.2 hi)⟩⟩
 have hle':ms.length<=l.length:=by simpa using h2
 have hzl:(ms.zip l).length=ms.length:=by rw[length_zip];omega
 have JX:∀j x,(ms.zip l)[j]? =some x->l.toArray[j]? =some x.2/\(λi=>ms.getD i true) j=x.1:=λj x hx=>by
  rw[List.getElem?_zip_eq_some] at hx;obtain⟨x1,x2⟩:=hx;simp[x1,x2]
 have al1:Al l.toArray (λi=>ms.getD i true) (List.range' 0 zi) ((ms.zip l).take zi):=by
  have:=Al.of (ops:=l.toArray) (un:=λi=>ms.getD i true) ((ms.zip l).take zi) 0 (λj x hx=>by
   rw[Nat.zero_add];rw[List.getElem?_take] at hx;split at hx
   .exact JX j x hx
   .cases hx)
  rwa [show((ms.zip l).take zi).length=zi by rw[Oe,hzl];omega] at this
 have S6:Al l.toArray (λi=>ms.getD i true) (List.range' (zi+1) (ms.length - (zi+1))) ((ms.zip l).drop (zi+1)):=by
  have:=Al.of (ops:=l.toArray) (un:=λi=>ms.getD i true) ((ms.zip l).drop (zi+1)) (zi+1) (λj x hx=>by
   rw[List.getElem?_drop] at hx;exact JX _ x hx)
  rwa [show((ms.zip l).drop (zi+1)).length=ms.length - (zi+1) by rw[length_drop,hzl]] at this
 refine wp_region_any hm ?_
 have H:=eaa (P:=P) (C:=C) (nn:=nn) (md:= .any) (gg:=l.toArray.size - ms.length) (Q:=Q) (tail:=l.drop ms.length) mS (by simpa using hz) h4 h3 S6 al1 (Array.replicate l.toArray.size false) a w.drew
  (λj oj _ hl=>by rw[getD_replicate_false] at hl;cases hl) h6 hC h
 have:=AM.any (Q:=Q) (gg:=l.toArray.size - ms.length) (λlisted a' w' hL=>by
  have:=wpAny_of_seq (md:= .any) (Q':=Q) (l.drop ms.length) ms.length listed a' w' (λj=>by simp[List.getElem?_drop]) (by rw[length_drop];simpa using hL.1) hL.2;simpa using this) _ _ _ _ H
 rw[length_range',length_range',show zi+(ms.length - (zi+1)+1)+(l.toArray.size - ms.length)=l.toArray.size by omega] at this;exact this
end
section
variable{g:World}{P:Program}{ops:Array Oper}{Q:Exit->Act->World->Prop}{n:Nat}{L:Fm}{H H' Hc:HH}{tail:List Oper}{z z2:List (Bool×Oper)}{o oz:Oper}
def BM[nd:ND P o]{Qx:Exit->Act->World->Prop}{K:Act->World->Prop}{a:Act}{w:World}(hQ:∀e a w,Qx e a w->e= .normal/\K a w)(h1:wpList P ops Qx [o] a w):Yu P ops o (λv w'=>K (a.put o.dst v) w') a w:=by
 have hout: ¬LetsOut Qx:=λ⟨_,_,h⟩=>by cases(hQ _ _ _ h).1
 simp only[wpList] at h1;by_cases Xo:Region.wanted o (yielded ops a.tmps)=true
 .rw[if_pos Xo] at h1;rcases h1 with h1|⟨_,h1⟩
  .refine .inr ⟨Xo,?_⟩;unfold Oper.wp at h1
   cases hr:(execOp a.eval o).run P w with
   |halt x w1=>
    rw[hr] at h1
    cases x<;>first|exact h1.elim|(cases(hQ _ _ _ h1).1)
   |ok nx w1=>
    rw[hr] at h1;rcases nd.h a w nx w1 hr with⟨v,rfl⟩|rfl|⟨f,args,rfl⟩
    .exact .inl ⟨v,w1,rfl,(hQ _ _ _ h1).2⟩
    .exact .inr (.inl ⟨w1,rfl,(hQ _ _ _ h1).2⟩)
    .refine .inr (.inr ⟨f,args,w1,rfl,?_⟩);refine Calls.mono h1 λe w'' he=>?_
     cases e with
     |returned v=>exact⟨v,rfl,(hQ _ _ _ he).2⟩
     |panicked ch=>exact absurd (hQ _ _ _ he).1 (by simp)
     |outgrown=>exact(hout he).elim
  .exact(hout h1).elim
 .rw[if_neg Xo] at h1;exact .inl ⟨by simpa using Xo,(hQ _ _ _ h1).2⟩
structure WA(g:World)(P:Program)(ops:Array Oper)(Q:Exit->Act->World->Prop)(n:Nat)(Hc:HH)(tail:List Oper)(oz:Oper)(z2 z:List (Bool×Oper))(L:Fm)(H:HH):Prop where
 run:∀a w,Fr n L a->on g H.flatten w->EK P ops (on g Hc.flatten) Q tail oz z2 z a w
def KZ(g:World)(P:Program)(ops:Array Oper)(Q:Exit->Act->World->Prop)(Hc:HH)(tail:List Oper)(oz:Oper)(z2 z:List (Bool×Oper))(H:HH):Exit->Act->World->Prop:=
 λ_ a _=>∀w,on g H.flatten w->EK P ops (on g Hc.flatten) Q tail oz z2 z a w
def LZ(g:World)(P:Program)(ops:Array Oper)(Q:Exit->Act->World->Prop)(Hc:HH)(tail:List Oper)(oz:Oper)(z2 z:List (Bool×Oper)):Exit->Act->World->Prop
 | .normal,a,w=>on g Hc.flatten w/\EK P ops (on g Hc.flatten) Q tail oz z2 z a w
 |_,_,_=>False
def W.Pt(nn:Nat){id:Nat}{l:List Oper}(ms:List Bool)(zi:Nat)(Hc:HH){r:HH}[k:Oc Hc H r](hm:P.follows .mixedOrders=true)(hB:Pt nn .any l.toArray ms zi=true)(hz:l[zi]? =some oz)
  (h:WA g P l.toArray Q n Hc (l.drop ms.length) oz ((ms.zip l).drop (zi+1)) ((ms.zip l).take zi) L H):W g P (.region id l.toArray true) Q n L H:= .mk λa w ha hw=>
 have hd:on g H.flatten w.drew:=hw.heap rfl ⟨rfl,rfl,rfl,Nat.le_refl _⟩
 OA (C:=on g Hc.flatten) ms zi hm hB ((Ia.qa k).on hd) hz (h.run a _ ha hd)
def WA.un{r:HH}[nv:NV P o][k:Oc Hc H r](h:WX true g P ops (KZ g P ops Q Hc tail oz z2 z H) n [o] L Hc):WA g P ops Q n Hc tail oz z2 ((true,o)::z) L H:=⟨λa w ha hw=>by
 have hc:=(Ia.qa k).on hw;have h1:wpQuiet P ops (on g Hc.flatten) (λa'=>∀w',on g Hc.flatten w'->KZ g P ops Q Hc tail oz z2 z H .normal a' w') [o] a:=h a w ha hc;simp only[wpQuiet] at h1;by_cases Xo:Region.wanted o (yielded ops a.tmps)=true
 .rw[if_pos Xo] at h1;obtain⟨v,hv,hK⟩:=h1;refine⟨v,.inl ⟨Xo,λw' Oi=>?_⟩,hK w hc w hw⟩;have h2:=hv w' Oi;unfold Oper.quietAt at h2
  cases hr:(execOp a.eval o).run P w' with
  |halt x w1=>rw[hr] at h2;exact h2.elim
  |ok nx w1=>
   obtain⟨u,rfl⟩:=nv.h a w' nx w1 hr;rw[hr] at h2;obtain⟨rfl,rfl⟩:=h2;rfl
 .rw[if_neg Xo] at h1;exact⟨undef,.inr ⟨by simpa using Xo,rfl⟩,h1 w hc w hw⟩⟩
def WA.lf(h:WA g P ops Q n Hc tail oz z2 z L H):D g (KZ g P ops Q Hc tail oz z2 z H) .normal n L H':= .mk λa w ha _ w' Oi=>h.run a w' ha Oi
def WA.an[nd:ND P o][ndz:ND P oz](hz:WX false g P ops (UU g P ops Q Hc tail ((false,o)::(z++z2))) n [oz] L H)(h:WX false g P ops (LZ g P ops Q Hc tail oz z2 z) n [o] L H):WA g P ops Q n Hc tail oz z2 ((false,o)::z) L H:=
 ⟨λa w ha hw=>⟨BM (Qx:=UU g P ops Q Hc tail ((false,o)::(z++z2))) (K:=λa w=>on g Hc.flatten w/\yq P ops (on g Hc.flatten) Q tail ((false,o)::(z++z2)) a w) (λe a w h=>by cases e<;>first|exact⟨rfl,h⟩|exact h.elim) (hz a w ha hw),
  BM (Qx:=LZ g P ops Q Hc tail oz z2 z) (K:=λa w=>on g Hc.flatten w/\EK P ops (on g Hc.flatten) Q tail oz z2 z a w) (λe a w h=>by cases e<;>first|exact⟨rfl,h⟩|exact h.elim) (h a w ha hw)⟩⟩
def WA.nil[ndz:ND P oz](h:WX false g P ops (UU g P ops Q Hc tail z2) n [oz] L H):WA g P ops Q n Hc tail oz z2 [] L H:=
 ⟨λa w ha hw=>BM (Qx:=UU g P ops Q Hc tail z2) (K:=λa w=>on g Hc.flatten w/\yq P ops (on g Hc.flatten) Q tail z2 a w) (λe a w h=>by cases e<;>first|exact⟨rfl,h⟩|exact h.elim) (h a w ha hw)⟩
def WA.back{r:HH}[k:Oc Hc H r](h:WA g P ops Q n Hc tail oz z2 z L H):D g (LZ g P ops Q Hc tail oz z2 z) .normal n L H:= .mk λa w ha hw=>⟨(Ia.qa k).on hw,h.run a w ha hw⟩
end
end Go.Sl
namespace Go.Sl
open Go
section
variable{g:World}{P:Program}{ops:Array Oper}{Q:Exit->Act->World->Prop}{q:Bool}{n d ty:Nat}{pos:String}{af:Array Edge}{rest:List Oper}{L:Fm}{H:HH}{v:Value}
variable{x y:Operand}{t b i T m:Nat}{ag:Bool}{cs cs' vs:List Value}{fr:Nat×Nat}{K:Obj->HH}
def jf(cs:List Value){parts:List (Nat×Operand)}{zs:List Value}{pl:List (Nat×Nat)}[hz:TZ P t zs][hp:TP P t pl](k:WX q g P ops Q n rest ((d,.agg cs.toArray)::L) H)(hx:My L (parts.map (·.2))=some vs:=by exact rfl)
  (hf':lG pl zs ((parts.map (·.1)).zip vs)=some cs:=by kernel_rfl)(hd:Nat.blt d n=true:=by exact rfl):
  WX q g P ops Q n (⟨some d,.build t parts.toArray,ty,pos,af,none⟩::rest) L H:=WX.build hx hf' hd k
def La(cs vs:List Value)[ht:TL P t m true](hx:ev L x=some (.pointer (some ⟨b,i,none⟩)))[hf:Tm b (.cells (List.toArray cs) T fr) H K](k:WX q g P ops Q n rest ((d,.agg vs.toArray)::L) H)
  (hc:(cs.drop i).take m=vs:=by kernel_rfl)(hl:vs.length=m:=by kernel_rfl)(hd:Nat.blt d n=true:=by exact rfl):
  WX q g P ops Q n (⟨some d,.load t x,ty,pos,af,none⟩::rest) L H:=WX.Ea hx hc hl hd k
def lN(cs:List Value)(v:Value)[ht:TL P t 1 false](hx:ev L x=some (.pointer (some ⟨b,i,none⟩)))[hf:Tm b (.cells (List.toArray cs) T fr) H K](k:WX q g P ops Q n rest ((d,v)::L) H)
  (hc:cs[i]? =some v:=by kernel_rfl)(hd:Nat.blt d n=true:=by exact rfl):
  WX q g P ops Q n (⟨some d,.load t x,ty,pos,af,none⟩::rest) L H:=WX.load hx hc hd k
def ZQ(cs vs cs':List Value)[ht:TL P t m ag](hx:ev L x=some (.pointer (some ⟨b,i,none⟩)))(hy:ev L y=some v)[hf:Tm b (.cells (List.toArray cs) T (0,0)) H K](k:WX false g P ops Q n rest L (K (.cells (List.toArray cs') T (0,0))))
  (e:setAt cs i vs=cs':=by kernel_rfl)(hv:v.cells=vs.toArray:=by kernel_rfl)(hl:vs.length=m:=by kernel_rfl)(h1:Pd vs=true:=by kernel_rfl)
  (hb:Nat.ble (i+vs.length) cs.length=true:=by kernel_rfl):WX false g P ops Q n (⟨none,.store t x y,ty,pos,af,none⟩::rest) L H:=by subst e;exact WX.qd hx hy hv hl h1 hb k
def Td(cs cs':List Value)[ht:TL P t 1 false](hx:ev L x=some (.pointer (some ⟨b,i,none⟩)))(hy:ev L y=some v)[hf:Tm b (.cells (List.toArray cs) T (0,0)) H K](k:WX false g P ops Q n rest L (K (.cells (List.toArray cs') T (0,0))))
  (e:cs.set i v=cs':=by kernel_rfl)(h1:v.oneCell'=true:=by kernel_rfl)(hb:Nat.blt i cs.length=true:=by kernel_rfl):WX false g P ops Q n (⟨none,.store t x y,ty,pos,af,none⟩::rest) L H:=by subst e;exact WX.store hx hy h1 hb k
def Nc(cs vs:List Value)[ht:TL P t m ag](hx:ev L x=some (.pointer (some ⟨b,0,none⟩)))(hy:ev L y=some v)[hf:Tm b (.cells (List.toArray cs) T (0,0)) H K](k:WX false g P ops Q n rest L (K (.cells (List.toArray vs) T (0,0))))
  (hv:v.cells=vs.toArray:=by kernel_rfl)(hl:vs.length=m:=by kernel_rfl)(hlc:cs.length=vs.length:=by kernel_rfl)(h1:Pd vs=true:=by kernel_rfl):WX false g P ops Q n (⟨none,.store t x y,ty,pos,af,none⟩::rest) L H:=
 ZQ cs vs vs hx hy k (Vh hlc) hv hl h1 (Nat.ble_eq_true_of_le (by omega))
def xg(cs vs:List Value)[ht:TL P t m ag][hf:Tm b (.cells (List.toArray cs) T (0,0)) H K](k:WX false g P ops Q n rest L (K (.cells (List.toArray vs) T (0,0))))(hx:ev L x=some (.pointer (some ⟨b,0,none⟩)):=by exact rfl)(hy:ev L y=some v:=by exact rfl)
 (hv:v.cells=vs.toArray:=by kernel_rfl)(hl:vs.length=m:=by kernel_rfl)(hlc:cs.length=vs.length:=by kernel_rfl)(h1:Pd vs=true:=by kernel_rfl):WX false g P ops Q n (⟨none,.store t x y,ty,pos,af,none⟩::rest) L H:=Nc cs vs hx hy k hv hl hlc h1
def ei(cs cs':List Value)[ht:TL P t 1 false][hf:Tm b (.cells (List.toArray cs) T (0,0)) H K](k:WX false g P ops Q n rest L (K (.cells (List.toArray cs') T (0,0))))(hx:ev L x=some (.pointer (some ⟨b,i,none⟩)):=by exact rfl)(hy:ev L y=some v:=by exact rfl)
 (e:cs.set i v=cs':=by kernel_rfl)(h1:v.oneCell'=true:=by kernel_rfl)(hb:Nat.blt i cs.length=true:=by kernel_rfl):WX false g P ops Q n (⟨none,.store t x y,ty,pos,af,none⟩::rest) L H:=Td cs cs' hx hy k e h1 hb
def Xf(cs vs:List Value)[ht:TL P t m true][hf:Tm b (.cells (List.toArray cs) T fr) H K](k:WX q g P ops Q n rest ((d,.agg vs.toArray)::L) H)(hx:ev L x=some (.pointer (some ⟨b,i,none⟩)):=by exact rfl)
 (hc:(cs.drop i).take m=vs:=by kernel_rfl)(hl:vs.length=m:=by kernel_rfl)(hd:Nat.blt d n=true:=by exact rfl):WX q g P ops Q n (⟨some d,.load t x,ty,pos,af,none⟩::rest) L H:=WX.Ea hx hc hl hd k
def Pg(cs:List Value)[ht:TL P t m true][hf:Tm b (.cells (List.toArray cs) T fr) H K](k:WX q g P ops Q n rest ((d,.agg cs.toArray)::L) H)(hx:ev L x=some (.pointer (some ⟨b,i,none⟩)):=by exact rfl)
 (hc:(cs.drop i).take m=cs:=by kernel_rfl)(hl:cs.length=m:=by kernel_rfl)(hd:Nat.blt d n=true:=by exact rfl):WX q g P ops Q n (⟨some d,.load t x,ty,pos,af,none⟩::rest) L H:=WX.Ea hx hc hl hd k
end
end Go.Sl
namespace Go.Sl
open Go
section
variable{g:World}{P:Program}{ops:Array Oper}{Q:Exit->Act->World->Prop}{q:Bool}{n d ty:Nat}{pos:String}{af:Array Edge}{rest:List Oper}{L:Fm}{H:HH}{v:Value}
theorem pG{k:IntKind}{i:Int}{w:World}:(asIntOf (.int k i)).run P w= .ok (k,i) w:=rfl
def WX.ixA{x y:Operand}{t e len m j:Nat}{kd:IntKind}{cs vs:List Value}(hx:ev L x=some (.agg cs.toArray))(hy:ev L y=some (.int kd (j:Int)))[ht:TU P t (.array len e)][tl:TL P e m true](hj:j<len)(hc:(cs.drop (j*m)).take m=vs)(hd:Nat.blt d n=true)
  (k:WX q g P ops Q n rest ((d,.agg vs.toArray)::L) H):WX q g P ops Q n (⟨some d,.index t x y,ty,pos,af,none⟩::rest) L H:=
 WX.val (λa ha w _=>by
  have hv:(part e cs.toArray (j*m)).run P w= .ok (.agg vs.toArray) w:=by
   unfold part;simp[tl.isAgg,tl.sizeOf];exact hc
  simp[execOp,ha.ev hx,ha.ev hy,Instr.index,pG,ht.run,tl.sizeOf,hv,hj]) hd k
def WX.W0{x y:Operand}{t e len j:Nat}{kd:IntKind}{cs:List Value}(hx:ev L x=some (.agg cs.toArray))(hy:ev L y=some (.int kd (j:Int)))[ht:TU P t (.array len e)][tl:TL P e 1 false](hj:j<len)(hc:cs[j]? =some v)(hd:Nat.blt d n=true)
  (k:WX q g P ops Q n rest ((d,v)::L) H):WX q g P ops Q n (⟨some d,.index t x y,ty,pos,af,none⟩::rest) L H:=
 WX.val (λa ha w _=>by
  have hv:(part e cs.toArray j).run P w= .ok v w:=by
   unfold part;simp[tl.isAgg,hc]
  simp[execOp,ha.ev hx,ha.ev hy,Instr.index,pG,ht.run,tl.sizeOf,hv,hj]) hd k
end
def lA0{g:World}{P:Program}{ops:Array Oper}{Q:Exit->Act->World->Prop}{n:Nat}{rest:List Oper}{L:Fm}{H:HH}{q:Bool}{d:Nat}{ty:TypeId}{pos:String}{af:Array Edge}{x:Operand}{t m b i T:Nat}{fr:Nat×Nat}{K:Obj->HH}(cs:List Value)[ht:TL P t m true](hx:ev L x=some (.pointer (some ⟨b,i,none⟩)))[hf:Tm b (.cells (List.toArray cs) T fr) H K](k:WX q g P ops Q n rest ((d,.agg cs.toArray)::L) H)
 (hc:(cs.drop i).take m=cs:=by kernel_rfl)(hl:cs.length=m:=by kernel_rfl)(hd:Nat.blt d n=true:=by exact rfl):
 WX q g P ops Q n (⟨some d,.load t x,ty,pos,af,none⟩::rest) L H:=WX.Ea hx hc hl hd k
section
variable{g:World}{P:Program}{ops:Array Oper}{Q:Exit->Act->World->Prop}{n:Nat}{rest:List Oper}{L:Fm}{H:HH}{q:Bool}
variable{d:Nat}{ty:TypeId}{pos:String}{af:Array Edge}{x y:Operand}{t t' a b:Nat}
def WX.PJ(hx:ev L x=some (.int .u32 (a:Int)))(hy:ev L y=some (.int .u32 (b:Int)))(ha:a<4294967296)(hb:b<4294967296)(hd:Nat.blt d n=true)
  (k:WX q g P ops Q n rest ((d,.int .u32 ((a^^^b:Nat):Int))::L) H):WX q g P ops Q n (⟨some d,.binOp .xor t x y t',ty,pos,af,none⟩::rest) L H:=
 WX.val (λac hac w _=>Wc (hac.ev hx) (hac.ev hy) qb (by
  have:=u32_xor_nat a b ha hb;simp only[binOp,ne_eq,not_true_eq_false,if_false,intBits_xor,this,Sem.run_pure])) hd k
def WX.DN(hx:ev L x=some (.int .u32 (a:Int)))(hy:ev L y=some (.int .u32 (b:Int)))(ha:a<4294967296)(hb:b<4294967296)(hd:Nat.blt d n=true)
  (k:WX q g P ops Q n rest ((d,.int .u32 ((a &&& b:Nat):Int))::L) H):WX q g P ops Q n (⟨some d,.binOp .and t x y t',ty,pos,af,none⟩::rest) L H:=
 WX.val (λac hac w _=>Wc (hac.ev hx) (hac.ev hy) qb (by
  have:=u32_and_nat a b ha hb;simp only[binOp,ne_eq,not_true_eq_false,if_false,intBits_and,this,Sem.run_pure])) hd k
def WX.EN(hx:ev L x=some (.int .u32 (a:Int)))(ha:a<4294967296)(hd:Nat.blt d n=true)
  (k:WX q g P ops Q n rest ((d,.int .u32 ((4294967295^^^a:Nat):Int))::L) H):WX q g P ops Q n (⟨some d,.unOp .xor t x,ty,pos,af,none⟩::rest) L H:=
 WX.val (λac hac w _=>by
  have h1:=u32_xor_nat 4294967295 a (by decide) ha;have h2:(if IntKind.u32.signed then -1 else IntKind.u32.max)=((4294967295:Nat):Int):=by decide
  simp only[execOp,hac.ev hx,Op.unary,h2,intBits_xor,h1,Sem.run_bind,Sem.run_pure,Result.andThen_ok]) hd k
def WX.MP{kd aI:IntKind}{m:Nat}(hx:ev L x=some (.int kd (a:Int)))(hy:ev L y=some (.int aI (m:Int)))(hm:m<=kd.bits)(hw:kd.wrap ((a*2^m:Nat):Int)=((a*2^m:Nat):Int))(hd:Nat.blt d n=true)
  (k:WX q g P ops Q n rest ((d,.int kd ((a*2^m:Nat):Int))::L) H):WX q g P ops Q n (⟨some d,.binOp .shl t x y t',ty,pos,af,none⟩::rest) L H:=
 WX.val (λac hac w _=>Wc (hac.ev hx) (hac.ev hy) (by unfold eqGuard;rfl) (by
  have h1:Min.min ((m:Int).toNat) kd.bits=m:=by rw[Int.toNat_natCast];exact Nat.min_eq_left hm
  have h2:((a:Int)*2^m)=((a*2^m:Nat):Int):=by norm_cast
  simp only[binOp,Op.shift];rw[if_neg (by omega),h1,h2,hw];rfl)) hd k
end
section
variable{g:World}{P:Program}{Q:Exit->Act->World->Prop}{n:Nat}{L:Fm}{H:HH}
def Q6(P:Program)(rest:Code)(Q:Exit->Act->World->Prop):Act->World->Prop:=λa w=>rest.wp P (Exit.noGoto Q) a w
def W.lq{c rest:Code}(l:Nat)(hf:findLabel c l=some rest)(h:W g P c (Exit.jump l (Q6 P rest Q) Q) n L H):W g P (.scope c) Q n L H:= .mk λa w ha hw=>
 wp_scope_jumps l (Q6 P rest Q) (λ_ _=>0) hf (h a w ha hw) λa w hJ=>wp_mono hJ λe a' w' hq=>by
  cases e<;>first|exact hq.elim|exact hq
def W.label{l:Nat}(h:D g Q .normal n L H):W g P (.label l) Q n L H:= .mk λa w ha hw=>wp_label (h a w ha hw)
def W.goto{l:Nat}(h:D g Q (.goto l) n L H):W g P (.goto l) Q n L H:= .mk λa w ha hw=>wp_goto (h a w ha hw)
def D.jmp{l:Nat}{rest:Code}(h:W g P rest (Exit.noGoto Q) n L H):D g (Exit.jump l (Q6 P rest Q) Q) (.goto l) n L H:= .mk λa w ha hw=>⟨rfl,h a w ha hw⟩
instance{l:Nat}:JA (W g P (.label l) Q n L H) (D g Q .normal n L H):=⟨W.label⟩
instance{l:Nat}:JA (W g P (.goto l) Q n L H) (D g Q (.goto l) n L H):=⟨W.goto⟩
instance{l:Nat}{rest:Code}:JA (D g (Exit.jump l (Q6 P rest Q) Q) (.goto l) n L H) (W g P rest (Exit.noGoto Q) n L H):=⟨D.jmp⟩
instance{l:Nat}{J:Act->World->Prop}:JA (D g (Exit.jump l J Q) .ret n L H) (D g Q .ret n L H):=⟨λh=> .mk λa w ha hw=>h a w ha hw⟩
instance:JA (D g (Exit.noGoto Q) .ret n L H) (D g Q .ret n L H):=⟨λh=> .mk λa w ha hw=>h a w ha hw⟩
instance{l:Nat}{N:Act->World->Prop}:JA (D g (Exit.then N Q) (.goto l) n L H) (D g Q (.goto l) n L H):=⟨λh=> .mk λa w ha hw=>h a w ha hw⟩
instance{l id:Nat}:JA (D g (Exit.inBlock id Q) (.goto l) n L H) (D g Q (.goto l) n L H):=⟨λh=> .mk λa w ha hw=>h a w ha hw⟩
end
def aW(b off m n l:Nat):Addr:=if n=l then⟨b,off,none⟩ else⟨b,off+l*m,none⟩
section
variable{g:World}{P:Program}{ops:Array Oper}{Q:Exit->Act->World->Prop}{q:Bool}{n d ty:Nat}{pos:String}{af:Array Edge}{rest:List Oper}{L:Fm}{H:HH}
variable{x i j:Operand}{t e m lo hi len b off:Nat}{ag:Bool}{kd aI:IntKind}
def WX.B3(hx:ev L x=some (.pointer (some ⟨b,off,none⟩)))(hj':ev L j=some (.int aI (hi:Int)))(h2:hi<=len)[ht:TU P t (.array len e)][hl:TL P e m ag]
  (hd:Nat.blt d n=true)(kk:WX q g P ops Q n rest ((d,.slice (some ⟨b,off,none⟩) hi len)::L) H):WX q g P ops Q n (⟨some d,.slice t x none (some j) none,ty,pos,af,none⟩::rest) L H:=
 WX.val (λa' ha w hw=>by
  have e0:∀k:Nat,(if k=0 then(⟨b,off,none⟩:Addr) else(⟨b,off,none⟩:Addr).add (0*m))=⟨b,off,none⟩:=λk=>by split<;>simp[Xc]
  simp[execOp,ha.ev hx,ha.ev hj',Instr.sliceAt,Instr.sureAddr,Instr.sliceBounds,wj h2,ht.run,hl.sizeOf,Xc]) hd kk
def WX.EY(hx:ev L x=some (.pointer (some ⟨b,off,none⟩)))(hi':ev L i=some (.int kd (lo:Int)))(h1:lo<=len)[ht:TU P t (.array len e)][hl:TL P e m ag]
  (hd:Nat.blt d n=true)(kk:WX q g P ops Q n rest ((d,.slice (some (aW b off m len lo)) (len - lo) (len - lo))::L) H):WX q g P ops Q n (⟨some d,.slice t x (some i) none none,ty,pos,af,none⟩::rest) L H:=
 WX.val (λa' ha w hw=>by
  simp[execOp,ha.ev hx,ha.ev hi',Instr.sliceAt,Instr.sureAddr,Instr.sliceBounds,wj h1,ht.run,hl.sizeOf,Xc,aW]) hd kk
end
section
variable{α:Type}[Qb α]
def Rs.part{b o T c:Nat}{fr:Nat×Nat}{pre post cs:List Value}{xs:List α}(hcs:cs=pre++(Jb xs++post))(ho:pre.length=o)(hc:xs.length<=c):Rs xs (.slice (some ⟨b,o,none⟩) xs.length c) [(b,.cells (List.toArray cs) T fr)]:=by
 subst hcs;subst ho;refine⟨_,_,rfl,hc,λk y hk=>⟨b,pre.length,rfl,λj u hu g w hw=>?_⟩⟩;have hj:j<Qb.sz α:=by have:=(List.getElem?_eq_some_iff.1 hu).1;rwa [Qb.len] at this
 rw[yg (hw.2.2 b _ (qf)),List.getElem?_append_right (by omega),show pre.length+(k*Qb.sz α+j) - pre.length=k*Qb.sz α+j by omega,bA hk hj,hu]
def Rs.none{v:Value}{p:Option Addr}{c:Nat}(h:Hp)(e:v= .slice p 0 c):Rs ([]:List α) v h:=⟨p,c,e,di _,λk y hk=>by simp at hk⟩
end
section
variable{g:World}{P:Program}{Q:Exit->Act->World->Prop}{n:Nat}{L:Fm}{H:HH}
def MZ(g:World)(n:Nat){α:Type}(I:α->Prop)(L':α->Fm)(H':α->HH):Act->World->Prop:=λa w=>∃i,I i/\At g n (L' i) (H' i) a w
def kQ{p:Nat->Prop}(h:∃v,p v):∃v,p v/\∀u,p u->v<=u:=by
 obtain⟨v,hv⟩:=h
 induction v using Nat.strongRecOn with
 |_ v ih=>
  by_cases hl:∃u,u<v/\p u
  .obtain⟨u,hu,hp⟩:=hl;exact ih u hu hp
  .exact⟨v,hv,λu hu=>Nat.le_of_not_lt λh=>hl ⟨u,h,hu⟩⟩
def W.kY{α:Type}{c rest:Code}(l:Nat)(hf:findLabel c l=some rest)(I:α->Prop)(L':α->Fm)(H':α->HH)(μ:α->Nat)
  (first:W g P c (Exit.jump l (MZ g n I L' H') Q) n L H)
  (pass:∀i,I i->W g P rest (Exit.jump l (MZ g n (λj=>I j/\μ j<μ i) L' H') Q) n (L' i) (H' i)):W g P (.scope c) Q n L H:= .mk λa w ha hw=>by
 have key:∀(a:Act) (w:World),∃v,(∀i,I i->At g n (L' i) (H' i) a w->v<=μ i)/\(MZ g n I L' H' a w->∃i,I i/\At g n (L' i) (H' i) a w/\μ i=v):=λa w=>by
  by_cases h:MZ g n I L' H' a w
  .obtain⟨i0,h1,h2⟩:=h;obtain⟨v,⟨i,h3,h4,h5⟩,h6⟩:=kQ (p:=λv=>∃i,I i/\At g n (L' i) (H' i) a w/\μ i=v) ⟨μ i0,i0,h1,h2,rfl⟩;exact⟨v,λj k1 k2=>h6 _ ⟨j,k1,k2,rfl⟩,λ_=>⟨i,h3,h4,h5⟩⟩
  .exact⟨0,λ_ _ _=>di _,λh'=>absurd h' h⟩
 let m:Act->World->Nat:=λa w=>Classical.choose (key a w)
 have hm:∀a w i,I i->At g n (L' i) (H' i) a w->m a w<=μ i:=λa w=>(Classical.choose_spec (key a w)).1;have hm2:∀a w,MZ g n I L' H' a w->∃i,I i/\At g n (L' i) (H' i) a w/\μ i=m a w:=λa w=>(Classical.choose_spec (key a w)).2;refine wp_scope_jumps l (MZ g n I L' H') m hf (first a w ha hw) λa w hJ=>?_;obtain⟨i,h1,⟨h2,h3⟩,h4⟩:=hm2 a w hJ;refine wp_mono (pass i h1 a w h2 h3) λe a' w' hq=>?_
 cases e with
 |goto l'=>
  obtain⟨e1,j,⟨h5,h6⟩,h7⟩:=hq
  exact⟨e1,⟨j,h5,h7⟩,by rw[<-h4];exact Nat.lt_of_le_of_lt (hm a' w' j h5 h7) h6⟩
 |_=>exact hq
def W.I7{c:Code}{L':Fm}{H':HH}(h:W g P c Q n L' H')(f:Aa L L')(s:Ia H H'):W g P c Q n L H:= .mk λa w ha hw=>h a w (ha.sub f) (s.on hw)
def D.gP{α:Type}{l:Nat}{I:α->Prop}{L':α->Fm}{H':α->HH}(i:α)(hi:I i)(f:Aa L (L' i))(s:Ia H (H' i)):D g (Exit.jump l (MZ g n I L' H') Q) (.goto l) n L H:=
 .mk λ_ _ ha hw=>⟨rfl,i,hi,ha.sub f,s.on hw⟩
end
end Go.Sl
namespace Go.Sl
open Go List
section
variable{g:World}{P:Program}{ops:Array Oper}{Q:Exit->Act->World->Prop}{n:Nat}{rest:List Oper}{L:Fm}{H:HH}{q:Bool}
variable{d:Nat}{ty:TypeId}{pos:String}{af:Array Edge}
def bdZ{t e m k:Nat}{ag:Bool}(zs:List Value)[hz:TZ P t zs][hu:TU P t (.array m e)][hl:TL P e k ag](kk:WX q g P ops Q n rest ((d,.agg zs.toArray)::L) H)(hd:Nat.blt d n=true:=by exact rfl):
  WX q g P ops Q n (⟨some d,.build t #[],ty,pos,af,none⟩::rest) L H:=
 WX.val (λa ha w hw=>by
  obtain⟨i,z',g1,g2,g3⟩:=hz.h;have hh:=hl.s
  cases hi:P.info? e with
  |none=>simp[hi] at hh
  |some ie=>
   have hb:P.built t []=some zs.toArray:=by
    simp only[Program.built,g1,g2,hu.h,hi,Instr.fill,g3]
   have:=run_build (P:=P) w t #[] zs.toArray hb;simp only[execOp,Sem.run_bind];simp only[map_toArray,map_nil,Array.map_empty];rw[this];rfl) hd kk
def W.cj{α:Type}{x y:Code}(I:α->Prop)(L':α->Fm)(H':α->HH)(h1:W g P x (Exit.then (λa w=>∃i,I i/\At g n (L' i) (H' i) a w) Q) n L H)(h2:∀i,I i->W g P y Q n (L' i) (H' i)):W g P x (Exit.then (y.wp P Q) Q) n L H:=
 .mk λa w ha hw=>wp_mono (h1.run a w ha hw) (dQ λa w ⟨i,hi,h3,h4⟩=>(h2 i hi).run a w h3 h4)
def D.Kw{α:Type}{I:α->Prop}{L':α->Fm}{H':α->HH}(i:α)(hi:I i)(f:Aa L (L' i))(s:Ia H (H' i)):D g (Exit.then (λa w=>∃i,I i/\At g n (L' i) (H' i) a w) Q) .normal n L H:= .mk λ_ _ ha hw=>⟨i,hi,ha.sub f,s.on hw⟩
end
def D.aQ{g:World}{Q:Exit->Act->World->Prop}{n:Nat}{L:Fm}{H:HH}{α:Type}{I:α->Prop}{L':α->Fm}{H':α->HH}(i:α)(hi:I i)(f:Aa L (L' i):=by repeat(first|exact Aa.nil|refine Aa.cons rfl ?_))(s:Ia H (H' i):=by exact Ia.qa inferInstance):
 D g (Exit.then (λa w=>∃i,I i/\At g n (L' i) (H' i) a w) Q) .normal n L H:=D.Kw i hi f s
section
variable{P:Program}{md:Region.Mode}{C:World->Prop}
def yN(md:Region.Mode)(acc:List Nat)(o:Oper):Nat:=o.after.toList.foldl (λm e=>if Region.binds md e=true then m|||2^e.on|||acc.getD e.on 0 else m) 0
def pO(md:Region.Mode)(ops:List Oper):List Nat:=ops.foldl (λacc o=>acc++[yN md acc o]) []
def xK{acc:List Nat}{i:Nat}:∀(es:List Edge) (m:Nat),(es.foldl (λm e=>if Region.binds md e=true then m|||2^e.on|||acc.getD e.on 0 else m) m).testBit i=true->
  m.testBit i=true\/∃e∈es,Region.binds md e=true/\(e.on=i\/(acc.getD e.on 0).testBit i=true)
 |[],m,h=> .inl h
 |e::t,m,h=>by
  rw[foldl_cons] at h;rcases xK t _ h with h|⟨x,hx,h1,h2⟩
  .by_cases hb:Region.binds md e=true
   .rw[if_pos hb,Nat.testBit_or,Nat.testBit_or,Bool.or_eq_true,Bool.or_eq_true,Nat.testBit_two_pow] at h;rcases h with(h|h)|h
    .exact .inl h
    .exact .inr ⟨e,qf ..,hb,.inl (of_decide_eq_true h)⟩
    .exact .inr ⟨e,qf ..,hb,.inr h⟩
   .rw[if_neg hb] at h;exact .inl h
  .exact .inr ⟨x,Vn _ hx,h1,h2⟩
def yK(ops:List Oper):∀(post pre:List Oper) (acc:List Nat),ops=pre++post->acc.length=pre.length->(∀j i,(acc.getD j 0).testBit i=true->∃f,waits md ops.toArray f j i=true)->
  ∀j i,((post.foldl (λacc o=>acc++[yN md acc o]) acc).getD j 0).testBit i=true->∃f,waits md ops.toArray f j i=true
 |[],pre,acc,_,_,hg=>hg
 |o::t,pre,acc,he,hl,hg=>by
  rw[foldl_cons];refine yK ops t (pre++[o]) _ (by rw[he];simp) (by simp[hl]) λj i h=>?_;rcases Nat.lt_trichotomy j acc.length with hj|hj|hj
  .rw[getD_eq_getElem?_getD,List.getElem?_append_left hj,<-getD_eq_getElem?_getD] at h;exact hg j i h
  .subst hj;rw[getD_eq_getElem?_getD,List.getElem?_concat_length,Option.getD_some] at h;have ho:ops.toArray[acc.length]? =some o:=by rw[he,hl];simp
   rcases xK _ _ h with h|⟨e,hx,h1,h2⟩
   .rw[Nat.zero_testBit] at h;cases h
   .rcases h2 with h2|h2
    .refine⟨1,?_⟩;simp only[waits,ho];rw[Array.any_eq_true'];exact⟨e,by simpa using hx,by simp[h1,h2]⟩
    .obtain⟨f,hf⟩:=hg _ _ h2;refine⟨f+1,?_⟩;simp only[waits,ho];rw[Array.any_eq_true'];exact⟨e,by simpa using hx,by simp[h1,hf]⟩
  .rw[getD_eq_getElem?_getD,List.getElem?_eq_none (by simp;omega),Option.getD_none,Nat.zero_testBit] at h;cases h
def Hw(ops:List Oper){j i:Nat}(h:((pO md ops).getD j 0).testBit i=true):∃f,waits md ops.toArray f j i=true:=
 yK ops ops [] [] rfl rfl (λj i h=>by rw[show([]:List Nat).getD j 0=0 by simp,Nat.zero_testBit] at h;cases h) j i h
def Ac(md:Region.Mode)(ops:List Oper)(ms:List Bool)(nC:List Nat):Bool:=
 Region.noSelect ops.toArray && decide (ms.length<=ops.length) &&
 ((List.range ms.length).all λj=>ms.getD j true||(List.range j).all λi=>ms.getD i true||(nC.getD j 0).testBit i) &&
 ((List.range ops.length).all λt=>decide (t<ms.length)||(List.range ms.length).all λi=>(nC.getD t 0).testBit i) &&
 Region.lexHead md ops.toArray (ops.length - ms.length) ms.length 0 (Array.replicate ops.length false)
def KW{ops:List Oper}{ms:List Bool}(h:Ac md ops ms (pO md ops)=true):Bx md ops.toArray (λi=>ms.getD i true) ms.length/\ms.length<=ops.toArray.size/\Region.lexHead md ops.toArray (ops.toArray.size - ms.length) ms.length 0 (Array.replicate ops.toArray.size false)=true:=by
 simp only[Ac,Bool.and_eq_true,decide_eq_true_eq] at h;obtain⟨⟨⟨⟨h1,h2⟩,h3⟩,h4⟩,h5⟩:=h;refine⟨⟨Region.noSelect_spec h1,λi j hij hj hi hj'=>?_,λi t hi ht hts=>?_⟩,by simpa using h2,by simpa using h5⟩
 .have:=all_eq_true.1 h3 j (mem_range.2 hj);simp only[hj',Bool.false_or] at this;have:=all_eq_true.1 this i (mem_range.2 hij);simp only[hi,Bool.false_or] at this;exact Hw ops this
 .have:=all_eq_true.1 h4 t (mem_range.2 (by simpa using hts));simp only[Bool.or_eq_true,decide_eq_true_eq] at this;rcases this with h|h
  .omega
  .exact Hw ops (all_eq_true.1 h i (mem_range.2 hi))
def NA{id:Nat}{Q:Exit->Act->World->Prop}{a:Act}{w:World}{l:List Oper}(ms:List Bool)(hm:P.follows .mixedOrders=true)(hB:Ac .any l ms (pO .any l)=true)(hC:C w.drew)
  (h:yq P l.toArray C Q (l.drop ms.length) (ms.zip l) a w.drew):(Code.region id l.toArray true).wp P Q a w:=by
 obtain⟨mo,hle,eU⟩:=KW hB;have hle':ms.length<=l.length:=by simpa using hle
 have hzl:(ms.zip l).length=ms.length:=by rw[length_zip];omega
 refine wp_region_any hm ?_
 have H:=FA (P:=P) (C:=C) (md:= .any) (gg:=l.toArray.size - ms.length) (Q:=Q) (tail:=l.drop ms.length) mo (ms.zip l) 0 (Array.replicate l.toArray.size false) a w.drew
  (λj x hx=>by
   rw[List.getElem?_zip_eq_some] at hx;obtain⟨x1,x2⟩:=hx;simp[x1,x2]) (by rw[Nat.zero_add];exact hzl) (λj oj _ hl=>by rw[getD_replicate_false] at hl;cases hl) (λi hi=>absurd hi (by omega)) (by rw[hzl];exact eU) hC h
 have:=AM.any (Q:=Q) (gg:=l.toArray.size - ms.length) (λlisted a' w' hL=>by
  have:=wpAny_of_seq (md:= .any) (Q':=Q) (l.drop ms.length) ms.length listed a' w' (λj=>by simp[List.getElem?_drop]) (by rw[length_drop];simpa using hL.1) hL.2;simpa using this) _ _ _ _ H
 rw[hzl,show ms.length+(l.toArray.size - ms.length)=l.toArray.size by omega] at this;exact this
def W.Ac{g:World}{Q:Exit->Act->World->Prop}{n:Nat}{L:Fm}{H:HH}{id:Nat}{l:List Oper}(ms:List Bool)(Hc:HH){r:HH}[k:Oc Hc H r](hm:P.follows .mixedOrders=true)(hB:Go.Sl.Ac .any l ms (pO .any l)=true)(h:WM g P l.toArray Q n Hc (l.drop ms.length) (ms.zip l) L H):
  W g P (.region id l.toArray true) Q n L H:= .mk λa w ha hw=>
 have hd:on g H.flatten w.drew:=hw.heap rfl ⟨rfl,rfl,rfl,Nat.le_refl _⟩
 NA (C:=on g Hc.flatten) ms hm hB ((Ia.qa k).on hd) (h.run a _ ha hd)
end
def Wp{g:World}{P:Program}{Q:Exit->Act->World->Prop}{n:Nat}{L:Fm}{H:HH}{id:Nat}{l:List Oper}(ms:List Bool)(Hc:HH){r:HH}[m:Mx P][k:Oc Hc H r](h:WM g P l.toArray Q n Hc (l.drop ms.length) (ms.zip l) L H)(hB:Go.Sl.Ac .any l ms (pO .any l)=true:=by kernel_rfl):W g P (.region id l.toArray true) Q n L H:=W.Ac ms Hc m.h hB h
variable{g:World}{P:Program}{Q:Exit->Act->World->Prop}{n m f:Nat}{l:List Oper}{L:Fm}{H Hc r:HH}{listed:Array Bool}
section
variable{P:Program}{ops:Array Oper}{md:Region.Mode}{C:World->Prop}{un:Nat->Bool}{L:Array Bool->Act->World->Prop}
structure zM(md:Region.Mode)(ops:Array Oper)(m:Nat):Prop where
 Vd:∀(j:Nat) (o:Oper) cs b,ops[j]? =some o->o.op≠ .select cs b
 sink:∀i t,i<m->m<=t->t<ops.size->∃f,waits md ops f t i=true
def fQ{m k:Nat}{listed:Array Bool}(mo:zM md ops m)(hc:Og md ops listed)(hk:k<m)(hun:listed.getD k true=false){t:Nat}(ht:t∈Region.ready md ops listed):t<m:=by
 rcases Nat.lt_or_ge t m with h|h
 .exact h
 .obtain⟨_,ot,O9,_⟩:=mem_ready.1 ht;obtain⟨f0,ey⟩:=mo.sink k t hk h (Array.getElem?_eq_some_iff.1 O9).1;have:=yj hc ht ey;rw[getD_both hun] at this;cases this
def AM.gQ{m k:Nat}{ok:Oper}{u:Value}(mo:zM md ops m)(hk:ops[k]? =some ok)(hun:un k=true)(hkm:k<m)(hdone:∀listed a w,L listed a w->∀j∈Region.ready md ops listed,m<=j):
  ∀(f:Nat) (listed:Array Bool) (a:Act) (w:World),Og md ops listed->
   (∀j oj,ops[j]? =some oj->j≠k->listed.getD j true=false->(∀e∈oj.after,Region.binds md e=true->e.on≠k)->ok.apart ops oj=true)->
   k∈Region.ready md ops listed->Rx P ops C ok u a->AM P md ops C un L f (listed.setIfInBounds k true) (a.put ok.dst u) w->AM P md ops C un L (f+1) listed a w:=by
 intro f
 induction f with
 |zero=>
  intro listed a w hc _ hr hy H;have nj:=(mem_ready.1 hr).1;refine⟨H.1,λh=>(by rw[h] at hr;cases hr),λj hj=>?_⟩;by_cases hjk:j=k
  .subst hjk;refine⟨ok,hk,?_⟩;rw[hun];exact⟨u,hy,H⟩
  .have h1:=hdone _ _ _ H.2 j (ready_mono hj hjk);have h2:=fQ mo hc hkm nj hj
   omega
 |succ f ih=>
  intro listed a w hc hfree hr hy H;have nj:=(mem_ready.1 hr).1;refine⟨H.1,λh=>(by rw[h] at hr;cases hr),λj hj=>?_⟩;by_cases hjk:j=k
  .subst hjk;refine⟨ok,hk,?_⟩;rw[hun];exact⟨u,hy,H⟩
  .obtain⟨o,ho,h2⟩:=H.2.2 j (ready_mono hj hjk);obtain⟨ym,oj,br,hall⟩:=mem_ready.1 hj;have:o=oj:=Option.some.inj (ho.symm.trans br);subst this
   have hno:∀e∈o.after,Region.binds md e=true->e.on≠k:=λe he hb heq=>by
    have h1:=hall e he hb;rw[heq,getD_both nj] at h1;cases h1
   have hap:=hfree j o br hjk ym hno;obtain⟨q1,q2,q3⟩:=Oper.apart_spec hap;have Ys:∀cs b,o.op≠ .select cs b:=λcs b=>mo.Vd j o cs b br;have EA:∀cs b,ok.op≠ .select cs b:=λcs b=>mo.Vd k ok cs b hk
   have Gi:∀i oi,ops[i]? =some oi->i≠k->(listed.setIfInBounds j true).getD i true=false->(∀e∈oi.after,Region.binds md e=true->e.on≠k)->ok.apart ops oi=true:=λi oi hi hik hl hn=>by
    refine hfree i oi hi hik ?_ hn;by_cases hji:j=i
    .subst hji;exact ym
    .rwa [getD_set_ne true hji] at hl
   have Yj:=hc.set hj;have hr':=ready_mono hr (Ne.symm hjk);have CX:∀v,Rx P ops C ok u (a.put o.dst v):=λv=>hy.same (execOp_put ok EA a o.dst v λd hd=>q3 d hd) (wanted_put ok a o.dst v λd hd=>q3 d hd);refine⟨o,br,?_⟩
   cases Zu:un j with
   |true=>
    rw[Zu] at h2;obtain⟨v,hv,h3⟩:=h2;refine⟨v,hv.same (execOp_put o Ys a ok.dst u λd hd=>q1 d hd).symm (wanted_put o a ok.dst u λd hd=>q1 d hd).symm,ih _ _ _ Yj Gi hr' (CX v) ?_⟩;rw[Array.setIfInBounds_comm _ _ hjk,<-Act.put_comm a u v q2]
    exact h3
   |false=>
    rw[Zu] at h2;refine(h2.same (execOp_put o Ys a ok.dst u λd hd=>q1 d hd).symm (wanted_put o a ok.dst u λd hd=>q1 d hd).symm).mono λv w' h3=>?_;refine ih _ _ _ Yj Gi hr' (CX v) ?_;rw[Array.setIfInBounds_comm _ _ hjk,<-Act.put_comm a u v q2];exact h3
end
section
variable{g:World}{P:Program}{l:List Oper}{Q:Exit->Act->World->Prop}{n:Nat}{L:Fm}{H H' Hc:HH}{un:Nat->Bool}{m f:Nat}{listed:Array Bool}{o o1 o2 o3:Oper}{k:Nat}
def AY(g:World)(P:Program)(l:List Oper)(Q:Exit->Act->World->Prop)(Hc:HH)(un:Nat->Bool)(m f:Nat)(listed:Array Bool)(a:Act)(w:World):Prop:=
 Og .any l.toArray listed->AM P .any l.toArray (on g Hc.flatten) un (λx a w=>Region.seqB .any l.toArray (l.toArray.size - m) m x=true/\wpList P l.toArray Q (l.drop m) a w) f listed a w
structure WY(g:World)(P:Program)(l:List Oper)(Q:Exit->Act->World->Prop)(n:Nat)(Hc:HH)(un:Nat->Bool)(m f:Nat)(listed:Array Bool)(L:Fm)(H:HH):Prop where
 run:∀a w,Fr n L a->on g H.flatten w->AY g P l Q Hc un m f listed a w
def V6(g:World)(P:Program)(l:List Oper)(Q:Exit->Act->World->Prop)(Hc:HH)(un:Nat->Bool)(m f:Nat)(listed:Array Bool)(H:HH):Exit->Act->World->Prop:=
 λ_ a _=>∀w,on g H.flatten w->AY g P l Q Hc un m f listed a w
def zQ(g:World)(P:Program)(l:List Oper)(Q:Exit->Act->World->Prop)(Hc:HH)(un:Nat->Bool)(m f:Nat)(listed:Array Bool):Exit->Act->World->Prop
 | .normal,a,w=>on g Hc.flatten w/\AY g P l Q Hc un m f listed a w
 |_,_,_=>False
def unB(l:List Oper)(un:Nat->Bool)(m:Nat)(listed:Array Bool)(k:Nat):Bool:=(Region.ready .any l.toArray listed).contains k && un k && decide (k<m) && Region.free .any l.toArray listed k
def KX(l:List Oper)(un:Nat->Bool)(listed:Array Bool)(ks:List Nat):Bool:=decide (Region.ready .any l.toArray listed=ks) && ks.all λk=> !un k
def sinkB(l:List Oper)(m:Nat):Bool:=Region.noSelect l.toArray && decide (m<=l.length) && (List.range l.length).all λt=>decide (t<m)||(List.range m).all λi=>((pO .any l).getD t 0).testBit i
def zK(h:sinkB l m=true):zM .any l.toArray m/\m<=l.length:=by
 simp only[sinkB,Bool.and_eq_true,decide_eq_true_eq] at h;obtain⟨⟨h1,h2⟩,h4⟩:=h;refine⟨⟨Region.noSelect_spec h1,λi t hi ht hts=>?_⟩,h2⟩;have:=all_eq_true.1 h4 t (mem_range.2 (by simpa using hts));simp only[Bool.or_eq_true,decide_eq_true_eq] at this;rcases this with h|h
 .omega
 .exact Hw l (all_eq_true.1 h i (mem_range.2 hi))
def WY.fin{r:HH}[k:Oc Hc H r](hs:Region.seqB .any l.toArray (l.toArray.size - m) m listed=true)(h:WX false g P l.toArray Q n (l.drop m) L H):WY g P l Q n Hc un m 0 listed L H:=
 ⟨λa w ha hw _=>⟨(Ia.qa k).on hw,hs,h a w ha hw⟩⟩
def WY.Rf(k:Nat)(hB:unB l un m listed k=true)(ho:l[k]? =some o)(hS:sinkB l m=true){r:HH}[nv:NV P o][kp:Oc Hc H r](h:WX true g P l.toArray (V6 g P l Q Hc un m f (listed.setIfInBounds k true) H) n [o] L Hc):
  WY g P l Q n Hc un m (f+1) listed L H:=⟨λa w ha hw Ah=>by
 have hc:=(Ia.qa kp).on hw;simp only[unB,Bool.and_eq_true,decide_eq_true_eq] at hB;obtain⟨⟨⟨hr,hu⟩,hkm⟩,hf⟩:=hB;have hr':k∈Region.ready .any l.toArray listed:=by simpa using hr
 have ho':l.toArray[k]? =some o:=by simpa using ho
 have h1:wpQuiet P l.toArray (on g Hc.flatten) (λa'=>∀w',on g Hc.flatten w'->V6 g P l Q Hc un m f (listed.setIfInBounds k true) H .normal a' w') [o] a:=h a w ha hc;simp only[wpQuiet] at h1
 have key:∃u,Rx P l.toArray (on g Hc.flatten) o u a/\AY g P l Q Hc un m f (listed.setIfInBounds k true) (a.put o.dst u) w:=by
  by_cases Xo:Region.wanted o (yielded l.toArray a.tmps)=true
  .rw[if_pos Xo] at h1;obtain⟨v,hv,hK⟩:=h1;refine⟨v,.inl ⟨Xo,λw' Oi=>?_⟩,hK w hc w hw⟩;have h2:=hv w' Oi;unfold Oper.quietAt at h2
   cases hr:(execOp a.eval o).run P w' with
   |halt x w1=>rw[hr] at h2;exact h2.elim
   |ok nx w1=>
    obtain⟨u,rfl⟩:=nv.h a w' nx w1 hr;rw[hr] at h2;obtain⟨rfl,rfl⟩:=h2;rfl
  .rw[if_neg Xo] at h1;exact⟨undef,.inr ⟨by simpa using Xo,rfl⟩,h1 w hc w hw⟩
 obtain⟨u,hU,hA⟩:=key;exact AM.gQ (zK hS).1 ho' hu hkm (λx a' w' hL=>seqB_ready hL.1) _ _ _ _ Ah (Region.free_spec ho' hf) hr' hU (hA (Ah.set hr'))⟩
def WY.lf(h:WY g P l Q n Hc un m f listed L H):D g (V6 g P l Q Hc un m f listed H) .normal n L H':= .mk λa w ha _ w' Oi=>h.run a w' ha Oi
def WY.back{r:HH}[k:Oc Hc H r](h:WY g P l Q n Hc un m f listed L H):D g (zQ g P l Q Hc un m f listed) .normal n L H:= .mk λa w ha hw=>⟨(Ia.qa k).on hw,h.run a w ha hw⟩
def fT(P:Program)(n:Nat)(L:Fm)(o:Oper):Prop:=∀(a:Act) w nx w',Fr n L a->(execOp a.eval o).run P w= .ok nx w'->(∃v,nx= .value v)\/nx= .skip\/∃f args,nx= .enter f args
def fT.of[nd:ND P o]:fT P n L o:=λa w nx w' _ h=>nd.h a w nx w' h
def fT.Yp{d:Option Nat}{ty:TypeId}{pos:String}{af:Array Edge}{fi:FuncId}{args:List Operand}{ts:Array TypeId}{fs cs:List Value}{u:Operand}(hu:ev L u=some (.func (.func fi) fs.toArray cs.toArray))[hn:Enters P fi]:
  fT P n L ⟨d,.call ⟨.value u,args.toArray,ts⟩,ty,pos,af,none⟩:=λa w nx w' ha h=>by
 rw[LA hn (ha.ev hu) rfl] at h;exact .inr (.inr ⟨_,_,(Result.ok.inj h).1.symm⟩)
def LW(nd:fT P n L o){a:Act}{w:World}(ha:Fr n L a){K:Exit->Act->World->Prop}(hK:∀e a w,K e a w->e= .normal)(h1:wpList P l.toArray K [o] a w):Yu P l.toArray o (λv w'=>K .normal (a.put o.dst v) w') a w:=by
 have hout: ¬LetsOut K:=λ⟨a,w,h⟩=>by cases hK _ _ _ h
 simp only[wpList] at h1;by_cases Xo:Region.wanted o (yielded l.toArray a.tmps)=true
 .rw[if_pos Xo] at h1;rcases h1 with h1|⟨_,h1⟩
  .refine .inr ⟨Xo,?_⟩;unfold Oper.wp at h1
   cases hr:(execOp a.eval o).run P w with
   |halt x w1=>
    rw[hr] at h1
    cases x<;>first|exact h1.elim|exact(nomatch hK _ _ _ h1)
   |ok nx w1=>
    rw[hr] at h1;rcases nd a w nx w1 ha hr with⟨v,rfl⟩|rfl|⟨f,args,rfl⟩
    .exact .inl ⟨v,w1,rfl,h1⟩
    .exact .inr (.inl ⟨w1,rfl,h1⟩)
    .refine .inr (.inr ⟨f,args,w1,rfl,?_⟩);refine Calls.mono h1 λe w'' he=>?_
     cases e with
     |returned v=>exact⟨v,rfl,he⟩
     |panicked ch=>exact(nomatch hK _ _ _ he)
     |outgrown=>exact(hout he).elim
  .exact(hout h1).elim
 .rw[if_neg Xo] at h1;exact .inl ⟨by simpa using Xo,h1⟩
def U4:∀e a w,zQ g P l Q Hc un m f listed e a w->e= .normal:=λe a w h=>by cases e<;>first|rfl|exact h.elim
def WY.an{r:HH}[kp:Oc Hc H r](ks:List Nat)(hB:KX l un listed ks=true)(hne:ks≠[])(h:∀k∈ks,∃o,l[k]? =some o/\fT P n L o/\WX false g P l.toArray (zQ g P l Q Hc un m f (listed.setIfInBounds k true)) n [o] L H):
  WY g P l Q n Hc un m (f+1) listed L H:=⟨λa w ha hw Ah=>by
 simp only[KX,Bool.and_eq_true,decide_eq_true_eq] at hB;obtain⟨hr,hall⟩:=hB;refine⟨(Ia.qa kp).on hw,by rw[hr];exact hne,λk hk=>?_⟩;have hk':k∈ks:=by rw[<-hr];exact hk
 obtain⟨o,ho,nd,hx⟩:=h k hk';refine⟨o,by simpa using ho,?_⟩;have:un k=false:=by simpa using all_eq_true.1 hall k hk'
 rw[this];exact(LW nd ha (U4) (hx a w ha hw)).mono λv w' h=>h.2 (Ah.set hk)⟩
def WY.Zs{r:HH}[kp:Oc Hc H r](k1:Nat)(hB:KX l un listed [k1]=true)(e1:l[k1]? =some o1)[n1:ND P o1](h1:WX false g P l.toArray (zQ g P l Q Hc un m f (listed.setIfInBounds k1 true)) n [o1] L H):WY g P l Q n Hc un m (f+1) listed L H:=
 WY.an [k1] hB (by simp) λk hk=>by rw[mem_singleton.1 hk];exact⟨o1,e1,.of,h1⟩
def WY.Cv{r:HH}[kp:Oc Hc H r](k1 k2:Nat)(hB:KX l un listed [k1,k2]=true)(e1:l[k1]? =some o1)(e2:l[k2]? =some o2)[n1:ND P o1][n2:ND P o2]
  (h1:WX false g P l.toArray (zQ g P l Q Hc un m f (listed.setIfInBounds k1 true)) n [o1] L H)(h2:WX false g P l.toArray (zQ g P l Q Hc un m f (listed.setIfInBounds k2 true)) n [o2] L H):WY g P l Q n Hc un m (f+1) listed L H:=
 WY.an [k1,k2] hB (by simp) λk hk=>by
  simp only[mem_cons,not_mem_nil,or_false] at hk;rcases hk with rfl|rfl
  .exact⟨o1,e1,.of,h1⟩
  .exact⟨o2,e2,.of,h2⟩
def WY.an3{r:HH}[kp:Oc Hc H r](k1 k2 k3:Nat)(hB:KX l un listed [k1,k2,k3]=true)(e1:l[k1]? =some o1)(e2:l[k2]? =some o2)(e3:l[k3]? =some o3)[n1:ND P o1][n2:ND P o2][n3:ND P o3]
  (h1:WX false g P l.toArray (zQ g P l Q Hc un m f (listed.setIfInBounds k1 true)) n [o1] L H)(h2:WX false g P l.toArray (zQ g P l Q Hc un m f (listed.setIfInBounds k2 true)) n [o2] L H)(h3:WX false g P l.toArray (zQ g P l Q Hc un m f (listed.setIfInBounds k3 true)) n [o3] L H):WY g P l Q n Hc un m (f+1) listed L H:=
 WY.an [k1,k2,k3] hB (by simp) λk hk=>by
  simp only[mem_cons,not_mem_nil,or_false] at hk;rcases hk with rfl|rfl|rfl
  .exact⟨o1,e1,.of,h1⟩
  .exact⟨o2,e2,.of,h2⟩
  .exact⟨o3,e3,.of,h3⟩
def WY.v1{r:HH}[kp:Oc Hc H r](k1:Nat)(hB:KX l un listed [k1]=true)(e1:l[k1]? =some o1)(n1:fT P n L o1)(h1:WX false g P l.toArray (zQ g P l Q Hc un m f (listed.setIfInBounds k1 true)) n [o1] L H):WY g P l Q n Hc un m (f+1) listed L H:=
 WY.an [k1] hB (by simp) λk hk=>by rw[mem_singleton.1 hk];exact⟨o1,e1,n1,h1⟩
def WY.v2{r:HH}[kp:Oc Hc H r](k1 k2:Nat)(hB:KX l un listed [k1,k2]=true)(e1:l[k1]? =some o1)(e2:l[k2]? =some o2)(n1:fT P n L o1)[n2:ND P o2]
  (h1:WX false g P l.toArray (zQ g P l Q Hc un m f (listed.setIfInBounds k1 true)) n [o1] L H)(h2:WX false g P l.toArray (zQ g P l Q Hc un m f (listed.setIfInBounds k2 true)) n [o2] L H):WY g P l Q n Hc un m (f+1) listed L H:=
 WY.an [k1,k2] hB (by simp) λk hk=>by
  simp only[mem_cons,not_mem_nil,or_false] at hk;rcases hk with rfl|rfl
  .exact⟨o1,e1,n1,h1⟩
  .exact⟨o2,e2,.of,h2⟩
def W.QH{id:Nat}(ms:List Bool)(Hc:HH){r:HH}[k:Oc Hc H r](hm:P.follows .mixedOrders=true)(hB:sinkB l ms.length=true)(h:WY g P l Q n Hc (λi=>ms.getD i true) ms.length ms.length (Array.replicate l.length false) L H):
  W g P (.region id l.toArray true) Q n L H:= .mk λa w ha hw=>by
 obtain⟨mo,hle⟩:=zK hB;have hd:on g H.flatten w.drew:=hw.heap rfl ⟨rfl,rfl,rfl,Nat.le_refl _⟩;refine wp_region_any hm ?_;have H:=h.run a _ ha hd (λj oj _ hl=>by rw[getD_replicate_false] at hl;cases hl)
 have:=AM.any (Q:=Q) (gg:=l.toArray.size - ms.length) (λlisted a' w' hL=>by
  have:=wpAny_of_seq (md:= .any) (Q':=Q) (l.drop ms.length) ms.length listed a' w' (λj=>by simp[List.getElem?_drop]) (by rw[length_drop];simpa using hL.1) hL.2;simpa using this) _ _ _ _ H
 rw[show ms.length+(l.toArray.size - ms.length)=l.toArray.size by simp;omega] at this;simpa using this
end
def vn{un:Nat->Bool}{o:Oper}(k:Nat)[nv:NV P o][kp:Oc Hc H r](h:WX true g P l.toArray (V6 g P l Q Hc un m f (listed.setIfInBounds k true) H) n [o] L Hc)(ho:l[k]? =some o:=by exact rfl)(hB:unB l un m listed k=true:=by decide+kernel)(hS:sinkB l m=true:=by kernel_rfl):
 WY g P l Q n Hc un m (f+1) listed L H:=WY.Rf k hB ho hS h
def KM{un:Nat->Bool}{o:Oper}[kp:Oc Hc H r](k:Nat)[n1:ND P o](h:WX false g P l.toArray (zQ g P l Q Hc un m f (listed.setIfInBounds k true)) n [o] L H)(e:l[k]? =some o:=by exact rfl)(hB:KX l un listed [k]=true:=by decide+kernel):
 WY g P l Q n Hc un m (f+1) listed L H:=WY.Zs k hB e h
def U6{id:Nat}(ms:List Bool)(Hc:HH)[m:Mx P][k:Oc Hc H r](h:WY g P l Q n Hc (λi=>ms.getD i true) ms.length ms.length (Array.replicate l.length false) L H)(hB:sinkB l ms.length=true:=by kernel_rfl):W g P (.region id l.toArray true) Q n L H:=W.QH ms Hc m.h hB h
end Go.Sl
