/- Texts of the proof of peekShort_holds, put together by a small program of ours (names shortened, spaces taken out). No condition beyond the given statement. -/
import Derived.Test.YtgfgglponbmgmaaGreatPSH18
import Derived.ChangeArms
import Derived.Carry
import Derived.OpenShut
import Derived.ChangeOld
import Derived.ChangeMaps5
import Derived.Test.YtgfgglponbmgmaaGreatPSH9
import Derived.Lib.Overlaps
import Derived.RangeFuncLeaves
set_option linter.unusedVariables false
set_option linter.unusedSimpArgs false
set_option linter.unnecessarySimpa false
noncomputable section
section
open Go.RowKit Go.WideShapes Go.ChangeShapes
namespace Go.Proofs.YtgfgglponbmgmaaGreatA.Am
variable {P:Program} {μ:Mu} {H:aa} {w:World} {B:Nat}
def jw (H:aa):Prop:=∀i b,H.get i=some b→b.ro=true
def jP (P:Program)(ok:TypeId→Bool):List Field→Nat→Option Nat
 | [],o=>some o
 |f::r,o=>if f.offset=o∧ok f.type=true then jP P ok r (o+P.cellsOf f.type) else none
def tx (P:Program):Nat→TypeId→Bool
 |0,_=>false
 |f+1,t=>match P.underlying t with
  |some .bool=>true
  |some (.int _)=>true
  |some .string=>true
  |some (.struct fs)=>jP P (tx P f) fs.toList 0==some (P.cellsOf t)
  |some (.slice e)=>decide (0<P.cellsOf e)&&tx P f e
  |_=>false
def jQ (P:Program)(q:TypeId→List Value→Prop):List Field→List Value→Prop
 | [],cs=>cs=[]
 |f::r,cs=>∃a b,cs=a++b∧a.length=P.cellsOf f.type∧q f.type a∧jQ P q r b
def In (P:Program)(H:aa):Nat→TypeId→List Value→Prop
 |0,_,_=>False
 |f+1,t,cs=>match P.underlying t with
  |some .bool=>∃b,cs=[.bool b]
  |some (.int k)=>∃n,cs=[.int k n]∧(Lit.int k n).wf=true
  |some .string=>∃s:ByteArray,cs=[.string s]∧s.size≤maxLen
  |some (.struct fs)=>jQ P (In P H f) fs.toList cs
  |some (.slice e)=>cs=[.slice none 0 0]∨∃(i:Nat) (es:List (List Value)),cs=[.slice (some ⟨i,0,none⟩) es.length es.length]∧es.length≤maxLen∧
    (0<es.length→H.get i=some ⟨es.flatten,e,P.cellsOf e,true⟩)∧∀x,x∈es→x.length=P.cellsOf e∧In P H f e x
  |_=>False
theorem RB {T:aa}{i:Nat}{b:eM}(h:H.get i=some b):aa.get (H++T) i=some b:=by
 have:=aa.ar h
 unfold aa.get at h ⊢;rw[List.getElem?_append_left this];exact h
theorem jQ.mono {q q':TypeId→List Value→Prop}(h: ∀t cs,q t cs→q' t cs): ∀(fs:List Field) (cs:List Value),jQ P q fs cs→jQ P q' fs cs
 | [],_,k=>k
 |_::r,_,⟨a,b,e,l,x,y⟩=>⟨a,b,e,l,h _ _ x,jQ.mono h r b y⟩
theorem In.mono {T:aa}: ∀(f:Nat) (t:TypeId) (cs:List Value),In P H f t cs→In P (H++T) f t cs:=by
 intro f;induction f with
 |zero=>intro t cs h;exact h
 |succ f ih=>
  intro t cs h;unfold In at h ⊢;split<;>simp_all only
  ·exact jQ.mono ih _ _ h
  ·rcases h with h|⟨i,es,h1,h2,h3,h4⟩
   ·exact .inl h
   ·exact .inr ⟨i,es,h1,h2,λhp=>RB (h3 hp),λx hx=>⟨(h4 x hx).1,ih _ _ (h4 x hx).2⟩⟩
variable {A:Type} {enc:TypeId×Value→A} {held:Bool}
abbrev Rd (enc:TypeId×Value→A)(P:Program)(w:World)(held:Bool):=DataW.trod enc P w 0 (λ_=>true) held
def Got (P:Program)(w:World)(B:Nat)(μ:Mu)(H:aa)(f:Nat)(t:TypeId)(cs:List Value):Prop:=
 ∃μ' T HY,μ.le μ'∧cJ P μ' (H++T) w B∧jw (H++T)∧cT μ' HY cs∧HY.all aD=true∧In P (H++T) f t HY
def N4 (enc:TypeId×Value→A)(P:Program)(w:World)(held:Bool)(B f:Nat):Prop:=
 ∀t fuel cs x μ H,tx P f t=true→Rd enc P w held fuel t cs=some x→cJ P μ H w B→jw H→Got P w B μ H f t cs
theorem nh {f:Nat}{t:TypeId}{v:Value}(hp:cp v=true)(ho:aD v=true)(hS:cJ P μ H w B)(hr:jw H)(hi:In P H f t [v]):Got P w B μ H f t [v]:=
 ⟨μ,[],[v],μ.le_refl,by simpa using hS,by simpa using hr,.cons (.plain _ hp) .nil,by simp[ho],by simpa using hi⟩
theorem DX {f:Nat}(L:N4 enc P w held B f){n:Nat}{cs:List Value}: ∀(fs:List Field) (o:Nat) (μ:Mu) (H:aa),jP P (tx P f) fs o=some cs.length→
  (∀fd∈fs,∃x,Rd enc P w held n fd.type ((cs.drop fd.offset).take (P.cellsOf fd.type))=some x)→cJ P μ H w B→jw H→
  ∃μ' T HY,μ.le μ'∧cJ P μ' (H++T) w B∧jw (H++T)∧cT μ' HY (cs.drop o)∧HY.all aD=true∧jQ P (In P (H++T) f) fs HY:=by
 intro fs;induction fs with
 |nil=>
  intro o μ H ho _ hS hr;simp only[jP] at ho;cases ho;exact⟨μ,[],[],μ.le_refl,by simpa using hS,by simpa using hr,by simpa using cT.nil,rfl,rfl⟩
 |cons fd r ih=>
  intro o μ H ho hx hS hr;simp only[jP] at ho;split at ho
  ·rename_i hc;obtain⟨rfl,eA⟩:=hc;obtain⟨x,PG⟩:=hx fd (List.mem_cons_self ..);obtain⟨μ1,T1,a1,l1,s1,r1,v1,o1,i1⟩:=L _ _ _ _ μ H eA PG hS hr;obtain⟨μ2,T2,a2,l2,s2,r2,v2,o2,i2⟩:=ih _ μ1 (H++T1) ho (λfd' h'=>hx fd' (List.mem_cons_of_mem _ h')) s1 r1
   have hlen:(cs.drop fd.offset).take (P.cellsOf fd.type)++cs.drop (fd.offset+P.cellsOf fd.type)=cs.drop fd.offset:=by
    rw[←List.drop_drop,List.take_append_drop]
   have P9:a1.length=P.cellsOf fd.type:=by
    have h1:=v1.1;have h2:=hlen;have:fd.offset+P.cellsOf fd.type≤cs.length:=by
     have key: ∀(fs:List Field) (o:Nat) m,jP P (tx P f) fs o=some m→o≤m:=by
      intro fs;induction fs with
      |nil=>intro o m h;simp only[jP] at h;cases h;exact Nat.le_refl _
      |cons g r ih=>
       intro o m h;simp only[jP] at h;split at h
       ·have:=ih _ _ h;omega
       ·cases h
     exact key _ _ _ ho
    rw[h1];simp;omega
   refine⟨μ2,T1++T2,a1++a2,Mu.le_trans l1 l2,by rw[←List.append_assoc];exact s2,by rw[←List.append_assoc];exact r2,?_,by simp[o1,o2],a1,a2,rfl,P9,?_,?_⟩
   ·rw[←hlen];exact(v1.mono l2).append v2
   ·rw[←List.append_assoc];exact In.mono _ _ _ i1
   ·rw[←List.append_assoc];exact i2
  ·cases ho
theorem FJ {f:Nat}(L:N4 enc P w held B f){n:Nat}{e:TypeId}(eA:tx P f e=true): ∀(ZB:List (List Value)) (μ:Mu) (H:aa),(∀cs∈ZB,(∃x,Rd enc P w held n e cs=some x)∧cs.length=P.cellsOf e)→cJ P μ H w B→jw H→
  ∃(μ':Mu) (T:aa) (es:List (List Value)),μ.le μ'∧cJ P μ' (H++T) w B∧jw (H++T)∧es.length=ZB.length∧cT μ' es.flatten ZB.flatten∧es.flatten.all aD=true∧∀x,x∈es→x.length=P.cellsOf e∧In P (H++T) f e x:=by
 intro ZB;induction ZB with
 |nil=>intro μ H _ hS hr;exact⟨μ,[],[],μ.le_refl,by simpa using hS,by simpa using hr,rfl,by simpa using cT.nil,rfl,λx hx=>by cases hx⟩
 |cons cs r ih=>
  intro μ H hx hS hr;obtain⟨⟨x,PG⟩,hl⟩:=hx cs (List.mem_cons_self ..);obtain⟨μ1,T1,a1,l1,s1,r1,v1,o1,i1⟩:=L _ _ _ _ μ H eA PG hS hr;obtain⟨μ2,T2,es,l2,s2,r2,n2,v2,o2,i2⟩:=ih μ1 (H++T1) (λc h'=>hx c (List.mem_cons_of_mem _ h')) s1 r1
  refine⟨μ2,T1++T2,a1::es,Mu.le_trans l1 l2,by rw[←List.append_assoc];exact s2,by rw[←List.append_assoc];exact r2,by simp[n2],?_,by simp only[List.flatten_cons,List.all_append,o1,o2,Bool.and_self],?_⟩
  ·simp only[List.flatten_cons];exact(v1.mono l2).append v2
  ·intro y hy;rcases List.mem_cons.1 hy with rfl|hy
   ·exact⟨by rw[v1.1,hl],by rw[←List.append_assoc];exact In.mono _ _ _ i1⟩
   ·rw[←List.append_assoc];exact i2 y hy
theorem cJ.ro' (h:cJ P μ H w B)(jk:jw H){a o es:Nat}{arr:Array Value}{ty:TypeId}{fz:Nat×Nat}(qU:w.heap[a]? =some (.cells arr ty fz))(cs:List Value)(t:TypeId)(PZ:cs.all aD=true)(hle:o+cs.length≤arr.size)(hv:cT μ cs ((arr.toList.drop o).take cs.length)):
  μ.le (μ.up H.length ⟨a,o,arr.size,es⟩)∧cJ P (μ.up H.length ⟨a,o,arr.size,es⟩) (H++[.y7 ⟨cs,t,es,true⟩]) w B∧jw (H++[.y7 ⟨cs,t,es,true⟩]):=by
 have lW:=Mu.C6 (l:=⟨a,o,arr.size,es⟩) (h.Bf H.length (Nat.le_refl _));have N5:jw (H.new ⟨cs,t,es,true⟩):=by
  intro i b hb;rcases aa.aL hb with⟨rfl,rfl⟩|⟨hi,hb⟩
  ·rfl
  ·exact jk i b hb
 refine⟨lW,⟨h.base,?_,?_,?_,?_,h.dT.keep lW (λ_ _=>aa.Bg) (λ_ _ h _=>h),λk hk=>by obtain⟨h1,h2⟩:=aa.vR hk;rw[Mu.dL (by omega)];exact h.vN k h1⟩,N5⟩
 ·intro i b hb;rcases aa.aL hb with⟨rfl,rfl⟩|⟨hi,hb⟩
  ·have h0:(true=false→fz=(0,0)):=λe=>by cases e
   exact⟨_,Mu.aP,rfl,PZ,(λe=>by cases e),arr,ty,fz,qU,rfl,h0,hle,hv.mono lW⟩
  ·obtain⟨l,h1,h2⟩:=h.ok i b hb;exact⟨l,lW _ _ h1,h2.mono lW⟩
 ·intro i hi;have hi:(H.new ⟨cs,t,es,true⟩).length≤i:=hi;rw[aa.kL] at hi;rw[Mu.dL (by omega)];exact h.Bf i (by omega)
 ·intro i j b c l m hb hc hl hm LO iB;rw[N5 i b hb] at iB;cases iB
 ·intro i b l hb iB hl;rw[N5 i b hb] at iB;cases iB
theorem DY {b off sz j:Nat}{cs:List Value}(h:w.cells? 0 (Addr.add ⟨b,off,none⟩ (j*sz)) sz=some cs)(uq:0<sz):
  ∃arr ty fz,w.heap[b]? =some (.cells arr ty fz)∧off+(j+1)*sz≤arr.size∧(arr.toList.drop (off+j*sz)).take sz=cs:=by
 obtain⟨_,hl,hc⟩:=World.cells?_some h;have h0: ∀i,i<sz→w.cell? ⟨b,off+j*sz+i,none⟩=cs[i]? :=by
  intro i hi;rw[←hc i hi,add_plain,add_plain]
 have h1:=h0 0 uq;rw[List.getElem?_eq_getElem (by omega)] at h1
 simp only[World.cell?] at h1;cases hb:w.heap[b]? with
 |none=>rw[hb] at h1;simp at h1
 |some ob=>
  cases ob with
  |cells arr ty fz=>
   have jk: ∀i,i<sz→arr[off+j*sz+i]? =cs[i]? :=by
    intro i hi;have:=h0 i hi
    simp only[World.cell?,hb] at this;simpa using this
   refine⟨arr,ty,fz,rfl,?_,?_⟩
   ·have:=jk (sz-1) (by omega)
    rw[List.getElem?_eq_getElem (by omega)] at this
    have:=(Array.getElem?_eq_some_iff.1 this).1
    rw[Nat.succ_mul];omega
   ·apply List.ext_getElem?;intro i;by_cases hi:i<sz
    ·rw[List.getElem?_take,if_pos hi,List.getElem?_drop,Array.getElem?_toList,jk i hi]
    ·rw[List.getElem?_take,if_neg hi,List.getElem?_eq_none (by omega)]
  |_=>rw[hb] at h1;simp at h1
theorem FK {arr:List Value}{off sz:Nat}(g:Nat→List Value): ∀n,(∀j,j<n→(arr.drop (off+j*sz)).take sz=g j)→
  ((List.range n).map g).flatten=(arr.drop off).take (n*sz):=by
 intro n;induction n with
 |zero=>intro _;simp
 |succ n ih=>
  intro h;rw[List.range_succ,List.map_append,List.flatten_append,ih (λj hj=>h j (by omega))]
  simp only[List.map_cons,List.map_nil,List.flatten_cons,List.flatten_nil,List.append_nil];rw[←h n (by omega),Nat.succ_mul,List.take_add,List.drop_drop]
theorem ZC: ∀f,N4 enc P w held B f:=by
 intro f;induction f with
 |zero=>intro t fuel cs x μ H h;simp[tx] at h
 |succ f ih=>
  intro t fuel cs x μ H eA hx hS hr;simp only[tx] at eA;split at eA
  ·rename_i ht;obtain⟨b,rfl,_⟩:=DataW.trod_bool ht hx;exact nh rfl rfl hS hr (by simp[In,ht])
  ·rename_i k ht;obtain⟨n,rfl,_,hw⟩:=DataW.trod_int ht hx;exact nh rfl rfl hS hr (by simp[In,ht,hw])
  ·rename_i ht;obtain⟨s,rfl,_,hw⟩:=DataW.trod_string ht hx;exact nh rfl rfl hS hr (by simp[In,ht,hw])
  ·rename_i fs ht;obtain⟨xs,n,rfl,rfl,hl,hxl,hf⟩:=DataW.trod_struct ht hx;rw[←hl] at eA;obtain⟨μ',T,HY,h1,h2,h3,h4,h5,h6⟩:=DX ih fs.toList 0 μ H (by simpa using eA) (λfd hfd=>by
    obtain⟨i,hi⟩:=List.getElem?_of_mem hfd;have sO:fs[i]? =some fd:=by simpa using hi
    have:=hf i fd sO
    have gB:i<xs.length:=by rw[hxl];exact(Array.getElem?_eq_some_iff.1 sO).1
    rw[List.getElem?_eq_getElem gB] at this;exact⟨_,this⟩) hS hr
   exact⟨μ',T,HY,h1,h2,h3,by simpa using h4,h5,by simp only[In,ht];exact h6⟩
  ·rename_i e ht;simp only[Bool.and_eq_true,decide_eq_true_eq] at eA;obtain⟨uq,ace⟩:=eA;rcases DataW.trod_slice ht hx with⟨rfl,_⟩|⟨a,len,cap,elems,rest,n,rfl,rfl,rfl,_,CX,hcm,ZD,he,Ub,_⟩
   ·exact nh rfl rfl hS hr (by simp[In,ht])
   ·obtain⟨hrl,sC⟩:=Ub rfl;have each: ∀j,j<cap→∃cs,w.cells? 0 (a.add (j*P.cellsOf e)) (P.cellsOf e)=some cs∧∃x,Rd enc P w held n e cs=some x:=by
     intro j hj;by_cases Af:j<len
     ·have:=he j Af
      rw[List.getElem?_eq_getElem (by omega),Option.bind_eq_some_iff] at this
      obtain⟨cs,h1,h2⟩:=this;exact⟨cs,h1,_,h2⟩
     ·have:=sC (j-len) (by omega)
      rw[List.getElem?_eq_getElem (by omega),show len+(j-len)=j by omega,Option.bind_eq_some_iff] at this
      obtain⟨cs,h1,h2⟩:=this;exact⟨cs,h1,_,h2⟩
    by_cases hc:cap=0
    ·subst hc;obtain rfl:len=0:=by omega
     obtain⟨s1,s2,s3⟩:=cJ.none hS hr a;refine⟨μ,[.dead],[.slice (some ⟨H.length,0,none⟩) 0 0],μ.le_refl,s1,s2,.cons s3 .nil,rfl,?_⟩;simp only[In,ht];exact .inr ⟨H.length,[],rfl,by simp,λh=>by simp at h,λx hx=>by cases hx⟩
    ·have Tj:a.spot=none:=by
      obtain⟨cs,h1,_⟩:=each 0 (by omega)
      obtain⟨_,hl,Aa⟩:=World.cells?_some h1;have:=Aa 0 uq
      rw[List.getElem?_eq_getElem (by omega)] at this
      simpa[Addr.add] using World.cell?_spot this
     obtain⟨b,off,spot⟩:=a;simp only at Tj;subst Tj;obtain⟨arr,ty,fz,qU,Gr,_⟩:=DY (each (cap-1) (by omega)).choose_spec.1 uq
     rw[show cap-1+1=cap by omega] at Gr
     let g:Nat→List Value:=λj=>(w.cells? 0 (Addr.add ⟨b,off,none⟩ (j*P.cellsOf e)) (P.cellsOf e)).getD []
     have hg: ∀j,j<cap→w.cells? 0 (Addr.add ⟨b,off,none⟩ (j*P.cellsOf e)) (P.cellsOf e)=some (g j):=by
      intro j hj;obtain⟨cs,h1,_⟩:=each j hj;show _=some ((w.cells? 0 _ _).getD [])
      rw[h1];rfl
     have hrd: ∀j,j<cap→(∃x,Rd enc P w held n e (g j)=some x)∧(g j).length=P.cellsOf e:=by
      intro j hj;obtain⟨cs,h1,h2⟩:=each j hj;have:=hg j hj
      rw[h1] at this;cases this;exact⟨h2,(World.cells?_some h1).2.1⟩
     obtain⟨μ1,T1,es,l1,s1,r1,n1,v1,o1,i1⟩:=FJ ih ace ((List.range len).map g) μ H (λcs qX=>by
      obtain⟨j,hj,rfl⟩:=List.mem_map.1 qX;exact hrd j (by have:=List.mem_range.1 hj;omega)) hS hr
     simp only[List.length_map,List.length_range] at n1;have EG:((List.range len).map g).flatten=(arr.toList.drop off).take (len*P.cellsOf e):=by
      refine FK g len ?_;intro j hj;obtain⟨adu,AG,fz',Tk,_,h3⟩:=DY (hg j (by omega)) uq
      rw[qU] at Tk;cases Tk;exact h3
     have adv:len*P.cellsOf e≤cap*P.cellsOf e:=Nat.mul_le_mul_right _ CX;have hln:es.flatten.length=len*P.cellsOf e:=by
      rw[v1.1,EG];simp;omega
     obtain⟨q1,q2,q3⟩:=cJ.ro' (es:=P.cellsOf e) s1 r1 qU es.flatten e o1 (show off+es.flatten.length≤arr.size by omega) (by rw[hln, ←EG];exact v1)
     refine⟨_,T1++[.y7 ⟨es.flatten,e,P.cellsOf e,true⟩],[.slice (some ⟨(H++T1).length,0,none⟩) len len],Mu.le_trans l1 q1,by rw[←List.append_assoc];exact q2,by rw[←List.append_assoc];exact q3,?_,rfl,?_⟩
     ·refine .cons ?_ .nil;have:=VR.slice (μ:=μ1.up (H++T1).length ⟨b,off,arr.size,P.cellsOf e⟩) (H++T1).length 0 len len cap ⟨b,off,arr.size,P.cellsOf e⟩ Mu.aP (Nat.le_refl _) CX (by simpa using Gr)
      simpa using this
     ·simp only[In,ht];refine .inr ⟨(H++T1).length,es,by rw[n1],by omega,λ_=>?_,λx hx=>⟨(i1 x hx).1,?_⟩⟩
      ·rw[←List.append_assoc];exact aa.kB (H:=H++T1) (b:=⟨es.flatten,e,P.cellsOf e,true⟩)
      ·rw[←List.append_assoc];exact In.mono _ _ _ (i1 x hx).2
  ·cases eA
def lR (P:Program)(H:aa)(f:Nat)(t:TypeId)(v:Value):Prop:=
 ∃cs,In P H f t cs∧match P.underlying t with
  |some (.struct _)=>v= .agg cs.toArray
  |_=>cs=[v]
def yz (P:Program)(H:aa)(f:Nat):List TypeId→List Value→Prop
 | [],vs=>vs=[]
 |t::ts,vs=>∃v r,vs=v::r∧lR P H f t v∧yz P H f ts r
theorem yA {v:Value}(h: ∀cs,v≠ .agg cs):v.cells.toList=[v]:=by
 cases v<;>first|rfl| (exact absurd rfl (h _))
theorem N6 {r:Reach}{b0:Nat}{f:Nat}{t:TypeId}{v:Value}{d:DataW A}{ps:List MemPlace}(eA:tx P f t=true)(oC:Value.okWide P w r b0 t v)(hd:DataW.Trod enc P w 0 (λ_=>true) held t v d ps)(hS:cJ P μ H w B)(hr:jw H): ∃μ' T a,μ.le μ'∧cJ P μ' (H++T) w B∧jw (H++T)∧VR μ' a v∧lR P (H++T) f t a:=by
 obtain⟨fuel,hf⟩:=hd;obtain⟨μ',T,HY,h1,h2,h3,h4,h5,h6⟩:=ZC f _ _ _ _ μ H eA hf hS hr;have single:(∀fs,P.underlying t≠some (.struct fs))→(∀cs,v≠ .agg cs)→∃μ' T a,μ.le μ'∧cJ P μ' (H++T) w B∧jw (H++T)∧VR μ' a v∧lR P (H++T) f t a:=by
  intro hns hna;rw[yA hna] at h4;obtain⟨a,rfl⟩: ∃a,HY=[a]:=by
   have:=h4.1
   match HY,this with
   | [a],_=>exact⟨a,rfl⟩
  obtain⟨b,y,e,h7,h8⟩:=h4.fq;cases e;refine⟨μ',T,a,h1,h2,h3,h7,[a],h6,?_⟩;split
  ·rename_i fs e;exact absurd e (hns _)
  ·rfl
 cases f with
 |zero=>simp[tx] at eA
 |succ f=>
  simp only[tx] at eA;split at eA
  ·rename_i ht;obtain⟨b,rfl⟩:=okWide_bool ht oC;exact single (by simp[ht]) (by simp)
  ·rename_i k ht;obtain⟨n,rfl⟩:=okWide_int ht oC;exact single (by simp[ht]) (by simp)
  ·rename_i ht;obtain⟨s,rfl⟩:=okWide_string ht oC;exact single (by simp[ht]) (by simp)
  ·rename_i fs ht;unfold Value.okWide at oC;rw[ht] at oC;obtain⟨cs,rfl,_⟩:=oC;refine⟨μ',T,.agg HY.toArray,h1,h2,h3,cT.agg (by simpa[Value.cells] using h4),HY,h6,by rw[ht]⟩
  ·rename_i e ht;obtain⟨a,len,cap,rfl⟩:=okWide_slice ht oC;exact single (by simp[ht]) (by simp)
  ·cases eA
theorem KU {r:Reach}{b0:Nat}{f:Nat}: ∀(ts:List TypeId) (vs:List Value) (ds:List (DataW A)) (ps:List MemPlace) (μ:Mu) (H:aa),(ts.all (tx P f))=true→
  (∀(j:Nat) t v,ts[j]? =some t→vs[j]? =some v→Value.okWide P w r b0 t v)→DataW.TrodAll enc P w 0 (λ_=>true) held ts vs ds ps→cJ P μ H w B→jw H→
  ∃μ' T aq',μ.le μ'∧cJ P μ' (H++T) w B∧jw (H++T)∧cT μ' aq' vs∧yz P (H++T) f ts aq':=by
 intro ts;induction ts with
 |nil=>
  intro vs ds ps μ H _ _ h hS hr;obtain⟨rfl,_,_⟩:=trodAll_nil h;exact⟨μ,[],[],μ.le_refl,by simpa using hS,by simpa using hr,.nil,rfl⟩
 |cons t ts ih=>
  intro vs ds ps μ H eA oC h hS hr;simp only[List.all_cons,Bool.and_eq_true] at eA;obtain⟨v,iU,d,ds',p,q,rfl,rfl,rfl,h1,h2⟩:=trodAll_cons h;obtain⟨μ1,T1,a,l1,s1,r1,v1,i1⟩:=N6 eA.1 (oC 0 t v rfl rfl) h1 hS hr;obtain⟨μ2,T2,aq',l2,s2,r2,v2,i2⟩:=ih iU ds' q μ1 (H++T1) eA.2 (λj t' v' e1 e2=>oC (j+1) t' v' (by simpa using e1) (by simpa using e2)) h2 s1 r1
  refine⟨μ2,T1++T2,a::aq',Mu.le_trans l1 l2,by rw[←List.append_assoc];exact s2,by rw[←List.append_assoc];exact r2,.cons (v1.mono l2) v2,a,aq',rfl,?_,?_⟩
  ·obtain⟨cs,k1,k2⟩:=i1;exact⟨cs,by rw[←List.append_assoc];exact In.mono _ _ _ k1,k2⟩
  ·rw[←List.append_assoc];exact i2
theorem KV (hl:laidOutB P=true): ∀(ts:List TypeId) (vs:List Value) (ds:List (DataW A)) (ps:List MemPlace) {W':World},(ts.all λt=>P.readableRec t&&decide (t<P.types.size))=true→
  DataW.TrodAll enc P w 0 (λ_=>true) true ts vs ds ps→Below w.heap.size w W'→(∀x∈ps,x.block<w.heap.size)→
  DataW.TrodAll enc P W' 0 (λb=>decide (b<w.heap.size)) true ts vs ds ps:=by
 intro ts;induction ts with
 |nil=>
  intro vs ds ps W' _ h _ _;obtain⟨rfl,rfl,rfl⟩:=trodAll_nil h;exact trodAll_mk0
 |cons t ts ih=>
  intro vs ds ps W' eA h hb gB;simp only[List.all_cons,Bool.and_eq_true,decide_eq_true_eq] at eA;obtain⟨v,iU,d,ds',p,q,rfl,rfl,rfl,h1,h2⟩:=trodAll_cons h;exact trodAll_cons_mk (Below.trod hl eA.1.1 eA.1.2 h1 hb λx hx=>gB x (List.mem_append_left _ hx)) (ih iU ds' q eA.2 h2 hb λx hx=>gB x (List.mem_append_right _ hx))
def Tl (P:Program)(f:FuncId)(ts:List TypeId):Prop:=
 ∀W:World,∀H args μ,jw H→yz P H 9 ts args→cJ P μ H W W.heap.size→∀vs,cT μ args vs→
  Calls P f vs.toArray W λe W'=>e= .returned (.bool true)∧Below W.heap.size W W'
theorem Tl.walk {f:FuncId}{ts:List TypeId}(h:Tl P f ts)(eA:(ts.all (tx P 9))=true){r:Reach}{b0:Nat}{vs:List Value}{ds:List (DataW A)}{ps:List MemPlace}(oC: ∀(j:Nat) t v,ts[j]? =some t→vs[j]? =some v→Value.okWide P w r b0 t v)(hA:DataW.TrodAll enc P w 0 (λ_=>true) held ts vs ds ps):
  Calls P f vs.toArray w λe W'=>e= .returned (.bool true)∧Below w.heap.size w W':=by
 obtain⟨μ,T,aq',_,s,r,v,i⟩:=KU ts vs ds ps (λ_=>none) [] eA oC hA (cJ.empty w) (λi b h=>by simp[aa.get] at h)
 exact h w ([]++T) aq' μ r i s vs v
theorem Tl.N7 {f:FuncId}{ts:List TypeId}(ks:List FuncId)(m:Nat)(hp:mK P (oj P)=true)(Gz:mK P (ks++oj P)=true)(hk:(ks.all λk=>(gr P (oj P) LS m k [] []).any λr=>pG r.1 (.bool true))=true)(h: ∀H args,jw H→yz P H 9 ts args→∃n H',gr P (ks++oj P) (qC ks) n f args H=some (.bool true,H')):Tl P f ts:=by
 intro W H args μ hr hi hS vs hv;obtain⟨n,H',h⟩:=h H args hr hi;exact yy hp Gz hk h hS hv
end Go.Proofs.YtgfgglponbmgmaaGreatA.Am
end
section
namespace Go.Proofs.YtgfgglponbmgmaaGreatA.Am
abbrev pv (p:Nat):Value:=.pointer (some ⟨p,0,none⟩)
variable {H H':aa}
theorem ar {p:Nat}{b:eM}(h:H.get p=some b):p<H.length:=aa.ar h
theorem aG {p:Nat}{b c:eM}(h:H.get p=some b):(H.put p c).get p=some c:=aa.iZ (ar h)
theorem bt {p q:Nat}{c:eM}(h:q≠p):(H.put p c).get q=H.get q:=aa.bt h
theorem iC (H:aa)(p:Nat)(c:eM):(H.put p c).length=H.length:=by simp[aa.put]
theorem gz (H:aa)(q:Nat):(H.kill q).length=H.length:=by simp[aa.kill]
theorem cA (H:aa)(c:eM):(H.new c).length=H.length+1:=by simp[aa.new]
theorem df {i:Nat}{c:eM}(h:i<H.length):(H.new c).get i=H.get i:=aa.tN h
theorem aL {c:eM}:(H.new c).get H.length=some c:=aa.kB
theorem iP {q i:Nat}(h:i≠q):(H.kill q).get i=H.get i:=aa.iP h
section
variable {P:Program}
theorem r7 (t:TypeId)(a b:Int):ai P .lss t (cv a) (cv b)=some (.bool (decide (a<b))):=rfl
theorem HZ (t:TypeId)(a b:Int):ai P .gtr t (cv a) (cv b)=some (.bool (decide (a>b))):=rfl
theorem RC (t:TypeId)(a b:Int):ai P .leq t (cv a) (cv b)=some (.bool (decide (a≤b))):=rfl
theorem RD (t:TypeId)(a b:Int):ai P .geq t (cv a) (cv b)=some (.bool (decide (a≥b))):=rfl
theorem vC (t:TypeId)(a b:Int):ai P .eql t (cv a) (cv b)=some (.bool (decide (a=b))):=by
 have h:(a==b)=decide (a=b):=by by_cases e:a=b<;>simp[e]
 rw[←h];rfl
theorem Ia (t:TypeId)(a b:Int):ai P .neq t (cv a) (cv b)=some (.bool (!decide (a=b))):=by
 have h:(a==b)=decide (a=b):=by by_cases e:a=b<;>simp[e]
 rw[←h];rfl
theorem Ib (t:TypeId)(a b:Int):ai P .add t (cv a) (cv b)=some (cv (IntKind.i64.wrap (a+b))):=rfl
theorem Ic (t:TypeId)(a b:Int):ai P .sub t (cv a) (cv b)=some (cv (IntKind.i64.wrap (a-b))):=rfl
theorem Cp (t:TypeId)(a b:Int):ai P .and t (cv a) (cv b)=some (cv (bits .and .i64 a b)):=rfl
theorem vD (t:TypeId)(a b:Int)(h:b≠0):ai P .rem t (cv a) (cv b)=some (cv (a.tmod b)):=by
 show(if b=0 then none else _)=_;rw[if_neg h]
theorem nj (t:TypeId)(a b:Int)(h:b≠0):ai P .quo t (cv a) (cv b)=some (cv (IntKind.i64.wrap (a.tdiv b))):=by
 show(if b=0 then none else _)=_;rw[if_neg h]
theorem gQ (off:Nat)(p o:Nat)(H:aa):al off (.pointer (some ⟨p,o,none⟩)) H=some (.pointer (some ⟨p,o+off,none⟩),H):=rfl
theorem N8 (p o:Nat)(H:aa):au (.pointer (some ⟨p,o,none⟩)) H=some (.pointer (some ⟨p,o,none⟩),H):=rfl
theorem ao (p o:Nat)(H:aa){b:eM}(h:H.get p=some b):aq (.pointer (some ⟨p,o,none⟩)) H=b.cells[o]? :=by
 simp only[aq,h]
theorem gR (p o:Nat)(x:Int)(H:aa){b:eM}(h:H.get p=some b)(hr:b.ro=false)(ho:o<b.cells.length):
  bD 1 (.pointer (some ⟨p,o,none⟩)) (cv x) H=some (undef,H.put p {b with cells:=b.cells.set o (cv x)}):=by
 simp only[bD,bW,h];rw[if_pos ⟨rfl,rfl⟩];have:(!b.ro&&decide (o+(cv x).cells.toList.length≤b.cells.length)&&(cv x).cells.toList.all aD)=true:=by
  rw[hr];simp[Value.cells,aD];omega
 rw[this];rfl
theorem FL (p o:Nat)(b0:Option Addr)(n c:Nat)(H:aa){b:eM}(h:H.get p=some b)(hr:b.ro=false)(ho:o<b.cells.length):
  bD 1 (.pointer (some ⟨p,o,none⟩)) (.slice b0 n c) H=some (undef,H.put p {b with cells:=b.cells.set o (.slice b0 n c)}):=by
 simp only[bD,bW,h];rw[if_pos ⟨rfl,rfl⟩];have:(!b.ro&&decide (o+(Value.slice b0 n c).cells.toList.length≤b.cells.length)&&(Value.slice b0 n c).cells.toList.all aD)=true:=by
  rw[hr];simp[Value.cells,aD];omega
 rw[this];rfl
theorem acf (p o:Nat)(x:Option Addr)(H:aa){b:eM}(h:H.get p=some b)(hr:b.ro=false)(ho:o<b.cells.length):
  bD 1 (.pointer (some ⟨p,o,none⟩)) (.pointer x) H=some (undef,H.put p {b with cells:=b.cells.set o (.pointer x)}):=by
 simp only[bD,bW,h];rw[if_pos ⟨rfl,rfl⟩];have:(!b.ro&&decide (o+(Value.pointer x).cells.toList.length≤b.cells.length)&&(Value.pointer x).cells.toList.all aD)=true:=by
  rw[hr];simp[Value.cells,aD];omega
 rw[this];rfl
theorem tZ {t e:TypeId}(o:Option Addr)(h:P.underlying t=some (.pointer e)):ai P .eql t (.pointer o) (.pointer none)=some (.bool o.isNone):=by
 cases o<;>simp[ai,iF,h,Op.maxDepth]
theorem ub {t e:TypeId}(o:Option Addr)(h:P.underlying t=some (.pointer e)):ai P .neq t (.pointer o) (.pointer none)=some (.bool (!o.isNone)):=by
 cases o<;>simp[ai,iF,h,Op.maxDepth]
theorem zO {t e:TypeId}(b:Option Addr)(m c:Nat)(h:P.underlying t=some (.slice e)):ai P .eql t (.slice b m c) (.slice none 0 0)=some (.bool b.isNone):=by
 cases b<;>simp[ai,iF,h,Op.maxDepth]
end
theorem fL {x:Int}(h: -9223372036854775808≤x∧x≤9223372036854775807):IntKind.i64.wrap x=x:=by rw[IntKind.wrap_i64];omega
theorem acg {x:Int}(h:(Lit.int .i64 x).wf=true): -9223372036854775808≤x∧x≤9223372036854775807:=by
 simpa[Lit.wf,IntKind.min,IntKind.max,IntKind.signed,IntKind.bits] using h
abbrev aj:=Nat→Int
structure Fr (H:aa) (o:aj) (H':aa) (o':aj) (ps:List Int):Prop where
 slot: ∀i,i<H.length→o i ∉ ps→H'[i]? =H[i]?
 own: ∀i,i<H.length→o' i=o i
 size:H.length≤H'.length
theorem Fr.same {o o':aj}{ps:List Int}(f:Fr H o H' o' ps)(i:Nat)(h:i<H.length)(hp:o i ∉ ps):H'.get i=H.get i:=by
 unfold aa.get;rw[f.slot i h hp]
theorem Fr.refl (H:aa)(o:aj)(ps:List Int):Fr H o H o ps:=⟨λ_ _ _=>rfl,λ_ _=>rfl,Nat.le_refl _⟩
theorem Fr.trans {H1 H2:aa}{o o1 o2:aj}{ps qs rs:List Int}(h:Fr H o H1 o1 ps)(k:Fr H1 o1 H2 o2 qs)(hp: ∀i∈ps,i∈rs)(hq: ∀i∈qs,i∈rs):Fr H o H2 o2 rs:=
 ⟨λi hi hn=>by
  rw[k.slot i (Nat.lt_of_lt_of_le hi h.size) (λe=>hn (by rw[h.own i hi] at e;exact hq _ e)),h.slot i hi (λe=>hn (hp _ e))],
  λi hi=>by rw[k.own i (Nat.lt_of_lt_of_le hi h.size),h.own i hi],Nat.le_trans h.size k.size⟩
theorem Fr.tr {H1 H2:aa}{o o1 o2:aj}{ps:List Int}(h:Fr H o H1 o1 ps)(k:Fr H1 o1 H2 o2 ps):Fr H o H2 o2 ps:=h.trans k (λ_ h=>h) (λ_ h=>h)
theorem Fr.wk {o o':aj}{ps qs:List Int}(h:Fr H o H' o' ps)(hp: ∀i∈ps,i∈qs):Fr H o H' o' qs:=⟨λi hi hn=>h.slot i hi λe=>hn (hp _ e),h.own,h.size⟩
theorem jd {i j:Nat}{x:Slot}(h:j≠i):(H.set i x)[j]? =H[j]? :=List.getElem?_set_ne (Ne.symm h)
theorem Fr.set {o o':aj}{ps:List Int}(h:Fr H o H' o' ps){i:Nat}(x:Slot)(hi:i<H.length→o i∈ps):Fr H o (H'.set i x) o' ps:=by
 refine⟨λj hj hn=>?_,h.own,by rw[List.length_set];exact h.size⟩
 rw[jd,h.slot j hj hn];rintro rfl;exact hn (hi hj)
theorem Fr.put {o o':aj}{ps:List Int}(h:Fr H o H' o' ps){i:Nat}{c:eM}(hi:i<H.length→o i∈ps):Fr H o (H'.put i c) o' ps:=h.set _ hi
theorem Fr.kill {o o':aj}{ps:List Int}(h:Fr H o H' o' ps){i:Nat}(hi:i<H.length→o i∈ps):Fr H o (H'.kill i) o' ps:=h.set _ hi
def aj.up (o:aj)(i:Nat)(p:Int):aj:=λj=>if j=i then p else o j
theorem aP {o:aj}{i:Nat}{p:Int}:o.up i p i=p:=by simp[aj.up]
theorem dL {o:aj}{i j:Nat}{p:Int}(h:j≠i):o.up i p j=o j:=by simp[aj.up,h]
theorem Fr.new {o o':aj}{ps:List Int}(h:Fr H o H' o' ps)(c:eM)(p:Int):Fr H o (H'.new c) (o'.up H'.length p) ps:=by
 have:=h.size
 refine⟨λj hj hn=>?_,λj hj=>?_,by rw[cA];omega⟩
 ·unfold aa.new;rw[List.getElem?_append_left (by omega),h.slot j hj hn]
 ·rw[dL (by omega),h.own j hj]
theorem Fr.cB {o o':aj}{ps:List Int}(h:Fr H o H' o' ps)(n:Nat):Fr H o (H'.cB n) o' ps:=by
 have:=h.size
 refine⟨λj hj hn=>?_,h.own,by unfold aa.cB;rw[List.length_append];omega⟩
 unfold aa.cB;rw[List.getElem?_append_left (by omega),h.slot j hj hn]
theorem qD (vs:List Value): ∀(A R:List Value),vs.length≤R.length→dt (A++R) A.length vs=A++vs++R.drop vs.length:=by
 induction vs with
 |nil=>intro A R _;simp[dt]
 |cons v vs ih=>
  intro A R h;cases R with
  |nil=>simp at h
  |cons r R=>
   have e:(A++r::R).set A.length v=(A++[v])++R:=by simp
   have e2:A.length+1=(A++[v]).length:=by simp
   rw[dt,e,e2,ih _ _ (by simpa using h)]
   simp
def eG (H:aa)(x:Value)(l:List Int):Prop:=
 (x= .slice none 0 0∧l=[])∨∃i off c,x= .slice (some ⟨i,off,none⟩) l.length c∧(l≠[]→∃b,H.get i=some b∧b.es=1∧off+l.length≤b.cells.length∧(b.cells.drop off).take l.length=l.map cv)
theorem eG.src {x:Value}{l:List Int}(h:eG H x l): ∃b c,x= .slice b l.length c∧cF H 1 l.length x=some (l.map cv):=by
 rcases h with⟨rfl,rfl⟩|⟨i,off,c,rfl,hb⟩
 ·exact⟨none,0,rfl,rfl⟩
 ·refine⟨_,_,rfl,?_⟩;by_cases e:l=[]
  ·subst e;simp[cF]
  ·obtain⟨b,h1,_,h2,h3⟩:=hb e;have:l.length≠0:=by simpa using e
   simp only[cF,this,if_false,aR,h1,Nat.mul_one];rw[if_pos h2,h3]
theorem eG.len {x:Value}{l:List Int}(h:eG H x l):cG x=some (cv l.length):=by
 obtain⟨b,c,rfl,_⟩:=h.src;rfl
theorem eG.isSlice {x:Value}{l:List Int}(h:eG H x l): ∃b c,x= .slice b l.length c:=by
 obtain⟨b,c,e,_⟩:=h.src;exact⟨b,c,e⟩
theorem eG.idx {x:Value}{l:List Int}(h:eG H x l){j:Nat}(hj:j<l.length):
  ∃i off b,(∀H',cK 1 x (cv j) H'=some (.pointer (some ⟨i,off,none⟩),H'))∧H.get i=some b∧b.cells[off]? =some (cv (l.getD j 0)):=by
 rcases h with⟨rfl,rfl⟩|⟨i,off,c,rfl,hb⟩
 ·simp at hj
 ·obtain⟨b,h1,_,h2,h3⟩:=hb (by rintro rfl;simp at hj)
  refine⟨i,off+j,b,λH'=>?_,h1,?_⟩
  ·simp only[cK];rw[if_pos (by constructor<;>omega)];simp
  ·have:=congrArg (·[j]?) h3
   simp only[List.getElem?_take,hj,if_true,List.getElem?_drop,List.getElem?_map] at this;rw[this,List.getElem?_eq_getElem hj];simp[List.getD_eq_getElem?_getD,List.getElem?_eq_getElem hj]
theorem eG.keep {x:Value}{l:List Int}(h:eG H x l)(hk: ∀i b,x= .slice (some b) l.length i→l≠[]→H'.get b.block=H.get b.block):eG H' x l:=by
 rcases h with h|⟨i,off,c,rfl,hb⟩
 ·exact .inl h
 ·refine .inr ⟨i,off,c,rfl,λe=>?_⟩
  obtain⟨b,h1,h2⟩:=hb e;exact⟨b,by rw[hk c ⟨i,off,none⟩ rfl e];exact h1,h2⟩
def dV (H:aa)(o:aj)(q:Int)(x:Value)(l:List Int):Prop:=eG H x l∧∀b n c,x= .slice (some b) n c→l≠[]→b.block<H.length∧o b.block=q
theorem dV.fr {o o':aj}{ps:List Int}{q:Int}{x:Value}{l:List Int}(h:dV H o q x l)(f:Fr H o H' o' ps)(hp:q ∉ ps):dV H' o' q x l:=by
 obtain⟨h1,h2⟩:=h;refine⟨h1.keep λi b e dy=>?_,λb n c e dy=>?_⟩
 ·obtain⟨k1,k2⟩:=h2 b _ _ e dy;exact f.same _ k1 (by rw[k2];exact hp)
 ·obtain⟨k1,k2⟩:=h2 b _ _ e dy;exact⟨Nat.lt_of_lt_of_le k1 f.size,by rw[f.own _ k1];exact k2⟩
theorem dV.nil {o:aj}{q:Int}:dV H o q (.slice none 0 0) []:=⟨.inl ⟨rfl,rfl⟩,λb n c e _=>by cases e⟩
def oJ (H:aa)(o:aj)(p:Int)(s:Value)(cs:List Int):Prop:=
 (s= .slice none 0 0∧cs=[])∨∃q cap rest ty,s= .slice (some ⟨q,0,none⟩) cs.length cap∧H.get q=some ⟨cs.map cv++rest,ty,1,false⟩∧cs.length+rest.length=cap∧o q=p
theorem oJ.ints {o:aj}{p:Int}{s:Value}{cs:List Int}(h:oJ H o p s cs):dV H o p s cs:=by
 rcases h with⟨rfl,rfl⟩|⟨q,cap,rest,ty,rfl,hb,hc,ho⟩
 ·exact .nil
 ·refine⟨.inr ⟨q,0,cap,rfl,λ_=>⟨_,hb,rfl,by simp,by simp⟩⟩,λb n c e _=>?_⟩
  cases e;exact⟨ar hb,ho⟩
theorem oJ.fr {o o':aj}{ps:List Int}{p:Int}{s:Value}{cs:List Int}(h:oJ H o p s cs)(f:Fr H o H' o' ps)(hp:p ∉ ps):oJ H' o' p s cs:=by
 rcases h with h|⟨q,cap,rest,ty,hs,hb,hc,ho⟩
 ·exact .inl h
 ·exact .inr ⟨q,cap,rest,ty,hs,by rw[f.same q (ar hb) (by rw[ho];exact hp)];exact hb,hc,by rw[f.own q (ar hb)];exact ho⟩
theorem oJ.isSlice {o:aj}{p:Int}{s:Value}{cs:List Int}(h:oJ H o p s cs): ∃b c,s= .slice b cs.length c:=by
 rcases h with⟨rfl,rfl⟩|⟨q,cap,rest,ty,rfl,_⟩
 ·exact⟨_,_,rfl⟩
 ·exact⟨_,_,rfl⟩
theorem oJ.set {o:aj}{p:Int}{s:Value}{cs:List Int}(h:oJ H o p s cs){j:Nat}(hj:j<cs.length)(x:Int):
  ∃q b c,(∀H',cK 1 s (cv j) H'=some (.pointer (some ⟨q,j,none⟩),H'))∧H.get q=some b∧b.ro=false∧o q=p∧b.cells[j]? =some (cv (cs.getD j 0))∧(∃n k,s= .slice (some ⟨q,0,none⟩) n k)∧
   bD 1 (.pointer (some ⟨q,j,none⟩)) (cv x) H=some (undef,H.put q c)∧oJ (H.put q c) o p s (cs.set j x):=by
 rcases h with⟨rfl,rfl⟩|⟨q,cap,rest,ty,rfl,hb,hc,ho⟩
 ·simp at hj
 ·refine⟨q,_,⟨(cs.set j x).map cv++rest,ty,1,false⟩,λH'=>?_,hb,rfl,ho,?_,⟨_,_,rfl⟩,?_,.inr ⟨q,cap,rest,ty,by simp,aG hb,by simpa using hc,ho⟩⟩
  ·simp only[cK];rw[if_pos (by constructor<;>omega)];simp
  ·show(List.map cv cs++rest)[j]? =_
   rw[List.getElem?_append_left (by simpa using hj),List.getElem?_map,List.getElem?_eq_getElem hj];simp[List.getD_eq_getElem?_getD,List.getElem?_eq_getElem hj]
  ·rw[gR _ _ _ _ hb rfl (by simp;omega)]
   simp only[List.set_append,List.length_map,hj,if_true,List.map_set]
theorem jR {o:aj}{p:Int}{s x:Value}{cs l:List Int}(t:TypeId)(hs:oJ H o p s cs)(hx:eG H x l)(hb:cs.length+l.length≤4294967296):
  ∃s' H' o',de t 1 8 s x H=some (s',H')∧oJ H' o' p s' (cs++l)∧Fr H o H' o' [p]∧(∀i,(∀n k,s≠ .slice (some ⟨i,0,none⟩) n k)→i<H.length→H'.get i=H.get i∧o' i=o i∧∀n k,s'≠ .slice (some ⟨i,0,none⟩) n k):=by
 obtain⟨b,c,rfl,hc⟩:=hx.src;by_cases hl:l=[]
 ·subst hl;refine⟨s,H,o,?_,by simpa using hs,.refl _ _ _,λi hi _=>⟨rfl,rfl,hi⟩⟩
  rcases hs with⟨rfl,rfl⟩|⟨q,cap,rest,ty,rfl,Ys,zm,ho⟩
  ·simp only[de,hc,Option.map_some];simp
  ·simp only[de,hc,Option.map_some];rw[if_pos (by simp;omega)];simp
 have hlen:l.length≠0:=by simpa using hl
 rcases hs with⟨rfl,rfl⟩|⟨q,cap,rest,ty,rfl,Ys,zm,ho⟩
 ·refine⟨.slice (some ⟨H.length,0,none⟩) l.length l.length,H.new ⟨l.map cv,t,1,false⟩,o.up H.length p,?_,?_,(Fr.refl _ _ _).new _ _,λi _ hi=>⟨df hi,dL (by omega),λn k e=>by cases e;omega⟩⟩
  ·simp only[de,hc,Option.map_some];rw[if_neg (by omega),if_pos (by simp;simp at hb;omega)]
   simp
  ·exact .inr ⟨H.length,l.length,[],t,by simp,by simpa using aL,by simp,aP⟩
 ·have hql:=ar Ys;by_cases jb:cs.length+l.length≤cap
  ·refine⟨.slice (some ⟨q,0,none⟩) (cs++l).length cap,H.put q ⟨(cs++l).map cv++rest.drop l.length,ty,1,false⟩,o,?_,?_,(Fr.refl _ _ _).put (λ_=>by simp[ho]),λi hi _=>⟨bt (by rintro rfl;exact hi _ _ rfl),rfl,λn k e=>by cases e;exact hi _ _ rfl⟩⟩
   ·simp only[de,hc,Option.map_some];rw[if_pos jb,if_neg hlen];simp only[Ys,if_true,bW];rw[if_pos (by simp[aD];omega)]
    have e:=qD (l.map cv) (cs.map cv) rest (by simp;omega)
    simp only[List.length_map] at e;simp only[Nat.mul_one,Nat.zero_add,e,Option.map_some,List.map_append,List.length_append]
   ·exact .inr ⟨q,cap,rest.drop l.length,ty,rfl,aG Ys,by simp;omega,ho⟩
  ·refine⟨.slice (some ⟨H.length,0,none⟩) (cs++l).length (cs++l).length,(H.kill q).new ⟨(cs++l).map cv,t,1,false⟩,o.up H.length p,?_,?_,?_,?_⟩
   ·simp only[de,hc,Option.map_some];rw[if_neg jb,if_pos (by simp;omega)]
    simp only[Ys];rw[if_pos (by simp;omega)]
    have e:aR H q 0 (cs.length*1)=some (cs.map cv):=by
     simp only[aR,Ys];rw[if_pos (by simp)]
     simp
    simp only[e,List.map_append,List.length_append]
   ·have:=aL (H:=H.kill q) (c:=⟨(cs++l).map cv,t,1,false⟩)
    rw[gz] at this;exact .inr ⟨H.length,(cs++l).length,[],t,rfl,by simpa using this,by simp,aP⟩
   ·have:=((Fr.refl H o [p]).kill (i:=q) (λ_=>by simp[ho])).new ⟨(cs++l).map cv,t,1,false⟩ p
    rw[gz] at this;exact this
   ·intro i hi Yt;refine⟨?_,dL (by omega),λn k e=>by cases e;omega⟩
    rw[df (by rw[gz];exact Yt),iP (by rintro rfl;exact hi _ _ rfl)]
theorem oJ.new (H:aa)(o:aj)(r:Int)(t:TypeId)(l:List Int):oJ (H.new ⟨l.map cv,t,1,false⟩) (o.up H.length r) r (.slice (some ⟨H.length,0,none⟩) l.length l.length) l:=
 .inr ⟨H.length,l.length,[],t,rfl,by simpa using aL,by simp,aP⟩
section
variable {P:Program} {f:Nat} {t e:TypeId}
def WZ (x:Int):Prop:= -9223372036854775808≤x∧x≤9223372036854775807
abbrev o0:aj:=λ_=> -1
theorem In.int (ht:P.underlying t=some (.int .i64)){cs:List Value}(h:In P H (f+1) t cs): ∃a,cs=[cv a]∧WZ a:=by
 simp only[In,ht] at h;obtain⟨n,rfl,h⟩:=h;exact⟨n,rfl,acg h⟩
theorem In.bool (ht:P.underlying t=some .bool){cs:List Value}(h:In P H (f+1) t cs): ∃a,cs=[.bool a]:=by
 simp only[In,ht] at h;exact h
theorem In.slice (ht:P.underlying t=some (.slice e)){cs:List Value}(h:In P H (f+1) t cs):cs=[.slice none 0 0]∨∃(i:Nat) (es:List (List Value)),cs=[.slice (some ⟨i,0,none⟩) es.length es.length]∧es.length≤maxLen∧
  (0<es.length→H.get i=some ⟨es.flatten,e,P.cellsOf e,true⟩)∧∀x,x∈es→x.length=P.cellsOf e∧In P H f e x:=by
 simp only[In,ht] at h;exact h
theorem In.ints (ht:P.underlying t=some (.slice e))(he:P.underlying e=some (.int .i64))(hc:P.cellsOf e=1){cs:List Value}(h:In P H (f+2) t cs):
  ∃v l,cs=[v]∧dV H o0 (-1) v l∧(∀x∈l,WZ x)∧l.length≤maxLen:=by
 unfold In at h;rw[ht] at h;simp only at h;rcases h with rfl|⟨i,es,rfl,hm,hg,jk⟩
 ·exact⟨_,[],rfl,.nil,(λx hx=>by cases hx),by simp⟩
 ·have: ∃l:List Int,es=l.map (λx=>[cv x])∧∀x∈l,WZ x:=by
   clear hm hg;induction es with
   |nil=>exact⟨[],rfl,λx hx=>by cases hx⟩
   |cons y es ih=>
    obtain⟨l,rfl,hl⟩:=ih (λx hx=>jk x (List.mem_cons_of_mem _ hx))
    obtain⟨a,rfl,ha⟩:=In.int he (jk y (List.mem_cons_self ..)).2;exact⟨a::l,rfl,λx hx=>(List.mem_cons.1 hx).elim (λe=>e▸ha) (hl x)⟩
  obtain⟨l,rfl,hl⟩:=this;have EG:(l.map (λx=>[cv x])).flatten=l.map cv:=by
   clear hm hg jk hl;induction l with
   |nil=>rfl
   |cons a l ih=>simp[ih]
  rw[EG] at hg;simp only[List.length_map] at hg hm;refine⟨_,l,rfl,⟨.inr ⟨i,0,l.length,by simp,λdy=>⟨_,hg (List.length_pos_iff.2 dy),hc,by simp,by show(List.drop 0 (l.map cv)).take l.length=_;rw[List.drop_zero,List.take_of_length_le (by simp)]⟩⟩,λb n c eq dy=>?_⟩,hl,hm⟩
  cases eq;exact⟨ar (hg (List.length_pos_iff.2 dy)),rfl⟩
theorem lR.one (hs: ∀fs,P.underlying t≠some (.struct fs)){v:Value}(h:lR P H f t v):In P H f t [v]:=by
 obtain⟨cs,h1,h2⟩:=h;split at h2
 ·rename_i fs e;exact absurd e (hs fs)
 ·subst h2;exact h1
theorem lR.int (ht:P.underlying t=some (.int .i64)){v:Value}(h:lR P H (f+1) t v): ∃a,v=cv a∧WZ a:=by
 obtain⟨a,h1,h2⟩:=In.int ht (h.one (by simp[ht]));cases h1;exact⟨a,rfl,h2⟩
theorem lR.bool (ht:P.underlying t=some .bool){v:Value}(h:lR P H (f+1) t v): ∃a,v= .bool a:=by
 obtain⟨a,h1⟩:=In.bool ht (h.one (by simp[ht]));cases h1;exact⟨a,rfl⟩
theorem lR.ints (ht:P.underlying t=some (.slice e))(he:P.underlying e=some (.int .i64))(hc:P.cellsOf e=1){v:Value}(h:lR P H (f+2) t v):
  ∃l,dV H o0 (-1) v l∧(∀x∈l,WZ x)∧l.length≤maxLen:=by
 obtain⟨v',l,h1,h2⟩:=In.ints ht he hc (h.one (by simp[ht]));cases h1;exact⟨l,h2⟩
end
variable {H H':aa} {o o':aj} {p:Int}
theorem dZ {i:Nat}(h:H'[i]? =H[i]?):H'.get i=H.get i:=by unfold aa.get;rw[h]
theorem fi {i j:Nat}{c:eM}(h:j≠i):(H.put i c)[j]? =H[j]? :=jd h
theorem KX {i j:Nat}(h:j≠i):(H.kill i)[j]? =H[j]? :=jd h
theorem mE {j:Nat}{c:eM}(h:j<H.length):(H.new c)[j]? =H[j]? :=by unfold aa.new;rw[List.getElem?_append_left h]
theorem FM {j n:Nat}(h:j<H.length):(H.cB n)[j]? =H[j]? :=by unfold aa.cB;rw[List.getElem?_append_left h]
theorem AH:(H.cB 1)[H.length]? =some .hole:=by
 unfold aa.cB;rw[List.getElem?_append_right (Nat.le_refl _)];simp
theorem AI (n:Nat):(H.cB n).length=H.length+n:=by unfold aa.cB;simp
theorem r8 {i:Nat}{b:eM}(h:i<H.length):aa.get (H.set i (.y7 b)) i=some b:=by
 unfold aa.get;rw[List.getElem?_set_self h]
section
variable {α:Type} (lt:α→α→Bool)
end
theorem r9 (p o:Nat)(x:Value)(H:aa){b:eM}(h:H.get p=some b)(hr:b.ro=false)(ho:o<b.cells.length)(hx:x.cells= #[x])(hk:known x=true)(h1:aD x=true):
  bD 1 (.pointer (some ⟨p,o,none⟩)) x H=some (undef,H.put p {b with cells:=b.cells.set o x}):=by
 simp only[bD,bW,h,hx,hk];rw[if_pos ⟨rfl,trivial⟩];have:(!b.ro&&decide (o+ #[x].toList.length≤b.cells.length)&& #[x].toList.all aD)=true:=by
  rw[hr];simp[h1];omega
 rw[this];rfl
end Go.Proofs.YtgfgglponbmgmaaGreatA.Am
end
