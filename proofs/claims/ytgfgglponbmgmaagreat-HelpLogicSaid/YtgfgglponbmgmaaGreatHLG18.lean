/- Texts of the proof of helpLogic_holds, put together by a small program of ours (names shortened, spaces taken out). No condition beyond the given statement. -/
import Derived.Test.YtgfgglponbmgmaaGreatHLG8
import Derived.ChangeArms
import Derived.Carry
import Derived.OpenShut
import Derived.ChangeOld
import Derived.ChangeMaps5
set_option linter.unusedVariables false
set_option linter.unusedSimpArgs false
set_option linter.unnecessarySimpa false
noncomputable section
section
open Go.RowKit
namespace Go.Proofs.YtgfgglponbmgmaaGreatA.Am
variable {P:Program} {μ:Mu} {H H':aa} {w:World} {B:Nat}
theorem cJ.below {w':World}(h:cJ P μ H w B)(b:Below w.heap.size w w'):cJ P μ H w' B:=
 ⟨Nat.le_trans h.base b.size,λi c hi=>by
  obtain⟨l,hl,hb⟩:=h.ok i c hi;exact⟨l,hl,hb.heap (b.block _ hb.lt)⟩,h.Bf,h.inj,h.own,h.dT.keep μ.le_refl (λ_ _ h=>h) (λk x hk _=>(b.block _ (Array.getElem?_eq_some_iff.1 hk).1).trans hk),h.vN⟩
theorem DV {bad:List FuncId}{m:Nat}{k:FuncId}{Hk:aa}(eA:mK P bad=true)(hk:gr P bad LS m k [] []=some (.bool true,Hk))(B:Nat)(H:aa):
  (∃fn,P.funcs[k]? =some fn∧fn.body.isSome=true∧(fn.name== "runtime.NumGoroutine")=false)∧Bw P B k [] H (.bool true) H:=by
 have gB:k<P.funcs.size:=DE (cJ.empty default) (λ_ h=>by simp[LS] at h) hk
 refine⟨(((oD (B:=0) eA (G:=LS) DF (λf args H v H' _ h=>by simp[LS] at h) m).told k [] [] _ Hk hk).1 gB).1,?_⟩
 intro μ w fe hS ha;have hs:=oD (B:=w.heap.size) eA (G:=LS) DF (λf args H v H' _ h=>by simp[LS] at h) m |>.told k [] [] _ Hk hk
 have ha0:fe=[]:=by
  have:=ha.1
  simpa using this.symm
 subst ha0;refine((hs.1 gB).2 _ w [] (cJ.empty w) .nil).mono ?_;rintro e w' ⟨v',μ',rfl,_,hv,_,hb⟩;rw[hv.bool];exact⟨_,μ,rfl,μ.le_refl,.plain _ rfl,hS.below hb.below,⟨hb.below.mono hS.base,hb.loops,hb.YJ,hb.size⟩⟩
def qC (ks:List FuncId):ae:=λf args H=>if ks.contains f=true∧args.isEmpty=true then some (.bool true,H) else none
theorem DW {ks:List FuncId}:gE (qC ks):=λf args H i b hf v H' h=>by
 unfold qC at h ⊢;split at h
 ·rename_i hc;cases h;rw[if_pos hc];exact⟨hf,rfl⟩
 ·cases h
theorem yy {bad ks:List FuncId}{m n:Nat}{f:FuncId}{args fe:List Value}(eA:mK P bad=true)(acd:mK P (ks++bad)=true)(hk:(ks.all λk=>(gr P bad LS m k [] []).any λr=>pG r.1 (.bool true))=true)(h:gr P (ks++bad) (qC ks) n f args H=some (.bool true,H'))(hS:cJ P μ H w w.heap.size)(ha:cT μ args fe):
  Calls P f fe.toArray w λe w'=>e= .returned (.bool true)∧Below w.heap.size w w':=by
 have hG: ∀f1 HX H1 v1 PI,(ks++bad).contains f1=true→qC ks f1 HX H1=some (v1,PI)→
   (∃fn,P.funcs[f1]? =some fn∧fn.body.isSome=true∧(fn.name== "runtime.NumGoroutine")=false)∧Bw P w.heap.size f1 HX H1 v1 PI:=λf1 HX H1 v1 PI _ h1=>by
  unfold qC at h1;split at h1
  ·rename_i h2;obtain⟨h3,h2⟩:=h2;have h2:HX=[]:=by simpa using h2
   subst h2;cases h1;have hm:=List.all_eq_true.1 hk f1 (by simpa using h3)
   cases hr:gr P bad LS m f1 [] [] with
   |none=>rw[hr] at hm;simp at hm
   |some r=>
    obtain⟨v,Hk⟩:=r;rw[hr] at hm;have hv:v= .bool true:=by
     simp only[Option.any_some,pG] at hm;cases v<;>simp_all [Bc]
    subst hv;exact DV eA hr _ _
  ·cases h1
 have hs:=(oD (B:=w.heap.size) acd DW hG n).told f args H _ H' h;have gB:f<P.funcs.size:=DE hS (λhb h=>by
  obtain⟨⟨fn,ze,_⟩,_⟩:=hG _ _ _ _ _ hb h;exact(Array.getElem?_eq_some_iff.1 ze).1) h
 refine((hs.1 gB).2 μ w fe hS ha).mono ?_;rintro e w' ⟨v',μ',rfl,_,hv,_,hb⟩;exact⟨by rw[hv.bool],hb.below⟩
theorem get_none {i:Nat}:aa.get (H++[.dead]) i=H.get i:=by
 unfold aa.get;by_cases h:i<H.length
 ·rw[List.getElem?_append_left h]
 ·rw[List.getElem?_append_right (by omega),List.getElem?_eq_none (show H.length≤i by omega)]
  by_cases h2:i-H.length=0
  ·rw[h2];rfl
  ·rw[List.getElem?_eq_none (by simp;omega)]
theorem N1 {i:Nat}:aa.dT (H++[.dead]) i=H.dT i:=by
 unfold aa.dT;by_cases h:i<H.length
 ·rw[List.getElem?_append_left h]
 ·rw[List.getElem?_append_right (by omega),List.getElem?_eq_none (show H.length≤i by omega)]
  by_cases h2:i-H.length=0
  ·rw[h2];rfl
  ·rw[List.getElem?_eq_none (by simp;omega)]
theorem cJ.none (h:cJ P μ H w B)(jk: ∀i b,H.get i=some b→b.ro=true)(a:Addr):
  cJ P μ (H++[.dead]) w B∧(∀i b,aa.get (H++[.dead]) i=some b→b.ro=true)∧VR μ (.slice (some ⟨H.length,0,none⟩) 0 0) (.slice (some a) 0 0):=by
 refine⟨⟨h.base,λi b hb=>h.ok i b (by rwa [get_none] at hb),λi hi=>h.Bf i (by simp at hi;omega),λi j b c l m hb hc=>?_,λi b l hb=>?_,h.dT.keep μ.le_refl (λi o hi=>by rwa [N1] at hi) (λ_ _ h _=>h),λk hk=>h.vN k (by
  by_cases e:k<H.length
  ·rwa [List.getElem?_append_left e] at hk
  ·have hl:=(List.getElem?_eq_some_iff.1 hk).1;have:k=H.length:=by simp at hl;omega
   subst this;simp at hk)⟩,λi b hb=>jk i b (by rwa [get_none] at hb),.lU _ _ _⟩
 ·rw[get_none] at hb hc;exact h.inj i j b c l m hb hc
 ·rw[get_none] at hb;exact h.own i b l hb
end Go.Proofs.YtgfgglponbmgmaaGreatA.Am
end
section
open Go.RowKit Go.WideShapes Go.ChangeShapes
namespace Go.Proofs.YtgfgglponbmgmaaGreatA.Am
variable {P:Program} {μ:Mu} {H:aa} {w:World} {B:Nat}
def jw (H:aa):Prop:=∀i b,H.get i=some b→b.ro=true
def jP (P:Program)(ok:TypeId→Bool):List Field→Nat→Option Nat
 | [],o=>some o
 |f::r,o=>if f.offset=o∧ok f.type=true then jP P ok r (o+P.cellsOf f.type) else none
def tx (P:Program):Nat→TypeId→Bool
 |0,_=>false
 |f+1,t=>match P.underlying t with
  |some .bool=>true
  |some (.int _)=>true
  |some .string=>true
  |some (.struct fs)=>jP P (tx P f) fs.toList 0==some (P.cellsOf t)
  |some (.slice e)=>decide (0<P.cellsOf e)&&tx P f e
  |_=>false
def jQ (P:Program)(q:TypeId→List Value→Prop):List Field→List Value→Prop
 | [],cs=>cs=[]
 |f::r,cs=>∃a b,cs=a++b∧a.length=P.cellsOf f.type∧q f.type a∧jQ P q r b
def In (P:Program)(H:aa):Nat→TypeId→List Value→Prop
 |0,_,_=>False
 |f+1,t,cs=>match P.underlying t with
  |some .bool=>∃b,cs=[.bool b]
  |some (.int k)=>∃n,cs=[.int k n]∧(Lit.int k n).wf=true
  |some .string=>∃s:ByteArray,cs=[.string s]∧s.size≤maxLen
  |some (.struct fs)=>jQ P (In P H f) fs.toList cs
  |some (.slice e)=>cs=[.slice none 0 0]∨∃(i:Nat) (es:List (List Value)),cs=[.slice (some ⟨i,0,none⟩) es.length es.length]∧es.length≤maxLen∧
    (0<es.length→H.get i=some ⟨es.flatten,e,P.cellsOf e,true⟩)∧∀x,x∈es→x.length=P.cellsOf e∧In P H f e x
  |_=>False
theorem RB {T:aa}{i:Nat}{b:eM}(h:H.get i=some b):aa.get (H++T) i=some b:=by
 have:=aa.ar h
 unfold aa.get at h ⊢;rw[List.getElem?_append_left this];exact h
theorem jQ.mono {q q':TypeId→List Value→Prop}(h: ∀t cs,q t cs→q' t cs): ∀(fs:List Field) (cs:List Value),jQ P q fs cs→jQ P q' fs cs
 | [],_,k=>k
 |_::r,_,⟨a,b,e,l,x,y⟩=>⟨a,b,e,l,h _ _ x,jQ.mono h r b y⟩
theorem In.mono {T:aa}: ∀(f:Nat) (t:TypeId) (cs:List Value),In P H f t cs→In P (H++T) f t cs:=by
 intro f;induction f with
 |zero=>intro t cs h;exact h
 |succ f ih=>
  intro t cs h;unfold In at h ⊢;split<;>simp_all only
  ·exact jQ.mono ih _ _ h
  ·rcases h with h|⟨i,es,h1,h2,h3,h4⟩
   ·exact .inl h
   ·exact .inr ⟨i,es,h1,h2,λhp=>RB (h3 hp),λx hx=>⟨(h4 x hx).1,ih _ _ (h4 x hx).2⟩⟩
variable {A:Type} {enc:TypeId×Value→A} {held:Bool}
abbrev Rd (enc:TypeId×Value→A)(P:Program)(w:World)(held:Bool):=DataW.trod enc P w 0 (λ_=>true) held
def Got (P:Program)(w:World)(B:Nat)(μ:Mu)(H:aa)(f:Nat)(t:TypeId)(cs:List Value):Prop:=
 ∃μ' T HY,μ.le μ'∧cJ P μ' (H++T) w B∧jw (H++T)∧cT μ' HY cs∧HY.all aD=true∧In P (H++T) f t HY
def N4 (enc:TypeId×Value→A)(P:Program)(w:World)(held:Bool)(B f:Nat):Prop:=
 ∀t fuel cs x μ H,tx P f t=true→Rd enc P w held fuel t cs=some x→cJ P μ H w B→jw H→Got P w B μ H f t cs
theorem nh {f:Nat}{t:TypeId}{v:Value}(hp:cp v=true)(ho:aD v=true)(hS:cJ P μ H w B)(hr:jw H)(hi:In P H f t [v]):Got P w B μ H f t [v]:=
 ⟨μ,[],[v],μ.le_refl,by simpa using hS,by simpa using hr,.cons (.plain _ hp) .nil,by simp[ho],by simpa using hi⟩
theorem DX {f:Nat}(L:N4 enc P w held B f){n:Nat}{cs:List Value}: ∀(fs:List Field) (o:Nat) (μ:Mu) (H:aa),jP P (tx P f) fs o=some cs.length→
  (∀fd∈fs,∃x,Rd enc P w held n fd.type ((cs.drop fd.offset).take (P.cellsOf fd.type))=some x)→cJ P μ H w B→jw H→
  ∃μ' T HY,μ.le μ'∧cJ P μ' (H++T) w B∧jw (H++T)∧cT μ' HY (cs.drop o)∧HY.all aD=true∧jQ P (In P (H++T) f) fs HY:=by
 intro fs;induction fs with
 |nil=>
  intro o μ H ho _ hS hr;simp only[jP] at ho;cases ho;exact⟨μ,[],[],μ.le_refl,by simpa using hS,by simpa using hr,by simpa using cT.nil,rfl,rfl⟩
 |cons fd r ih=>
  intro o μ H ho hx hS hr;simp only[jP] at ho;split at ho
  ·rename_i hc;obtain⟨rfl,eA⟩:=hc;obtain⟨x,PG⟩:=hx fd (List.mem_cons_self ..);obtain⟨μ1,T1,a1,l1,s1,r1,v1,o1,i1⟩:=L _ _ _ _ μ H eA PG hS hr;obtain⟨μ2,T2,a2,l2,s2,r2,v2,o2,i2⟩:=ih _ μ1 (H++T1) ho (λfd' h'=>hx fd' (List.mem_cons_of_mem _ h')) s1 r1
   have hlen:(cs.drop fd.offset).take (P.cellsOf fd.type)++cs.drop (fd.offset+P.cellsOf fd.type)=cs.drop fd.offset:=by
    rw[←List.drop_drop,List.take_append_drop]
   have P9:a1.length=P.cellsOf fd.type:=by
    have h1:=v1.1;have h2:=hlen;have:fd.offset+P.cellsOf fd.type≤cs.length:=by
     have key: ∀(fs:List Field) (o:Nat) m,jP P (tx P f) fs o=some m→o≤m:=by
      intro fs;induction fs with
      |nil=>intro o m h;simp only[jP] at h;cases h;exact Nat.le_refl _
      |cons g r ih=>
       intro o m h;simp only[jP] at h;split at h
       ·have:=ih _ _ h;omega
       ·cases h
     exact key _ _ _ ho
    rw[h1];simp;omega
   refine⟨μ2,T1++T2,a1++a2,Mu.le_trans l1 l2,by rw[←List.append_assoc];exact s2,by rw[←List.append_assoc];exact r2,?_,by simp[o1,o2],a1,a2,rfl,P9,?_,?_⟩
   ·rw[←hlen];exact(v1.mono l2).append v2
   ·rw[←List.append_assoc];exact In.mono _ _ _ i1
   ·rw[←List.append_assoc];exact i2
  ·cases ho
theorem FJ {f:Nat}(L:N4 enc P w held B f){n:Nat}{e:TypeId}(eA:tx P f e=true): ∀(ZB:List (List Value)) (μ:Mu) (H:aa),(∀cs∈ZB,(∃x,Rd enc P w held n e cs=some x)∧cs.length=P.cellsOf e)→cJ P μ H w B→jw H→
  ∃(μ':Mu) (T:aa) (es:List (List Value)),μ.le μ'∧cJ P μ' (H++T) w B∧jw (H++T)∧es.length=ZB.length∧cT μ' es.flatten ZB.flatten∧es.flatten.all aD=true∧∀x,x∈es→x.length=P.cellsOf e∧In P (H++T) f e x:=by
 intro ZB;induction ZB with
 |nil=>intro μ H _ hS hr;exact⟨μ,[],[],μ.le_refl,by simpa using hS,by simpa using hr,rfl,by simpa using cT.nil,rfl,λx hx=>by cases hx⟩
 |cons cs r ih=>
  intro μ H hx hS hr;obtain⟨⟨x,PG⟩,hl⟩:=hx cs (List.mem_cons_self ..);obtain⟨μ1,T1,a1,l1,s1,r1,v1,o1,i1⟩:=L _ _ _ _ μ H eA PG hS hr;obtain⟨μ2,T2,es,l2,s2,r2,n2,v2,o2,i2⟩:=ih μ1 (H++T1) (λc h'=>hx c (List.mem_cons_of_mem _ h')) s1 r1
  refine⟨μ2,T1++T2,a1::es,Mu.le_trans l1 l2,by rw[←List.append_assoc];exact s2,by rw[←List.append_assoc];exact r2,by simp[n2],?_,by simp only[List.flatten_cons,List.all_append,o1,o2,Bool.and_self],?_⟩
  ·simp only[List.flatten_cons];exact(v1.mono l2).append v2
  ·intro y hy;rcases List.mem_cons.1 hy with rfl|hy
   ·exact⟨by rw[v1.1,hl],by rw[←List.append_assoc];exact In.mono _ _ _ i1⟩
   ·rw[←List.append_assoc];exact i2 y hy
theorem cJ.ro' (h:cJ P μ H w B)(jk:jw H){a o es:Nat}{arr:Array Value}{ty:TypeId}{fz:Nat×Nat}(qU:w.heap[a]? =some (.cells arr ty fz))(cs:List Value)(t:TypeId)(PZ:cs.all aD=true)(hle:o+cs.length≤arr.size)(hv:cT μ cs ((arr.toList.drop o).take cs.length)):
  μ.le (μ.up H.length ⟨a,o,arr.size,es⟩)∧cJ P (μ.up H.length ⟨a,o,arr.size,es⟩) (H++[.y7 ⟨cs,t,es,true⟩]) w B∧jw (H++[.y7 ⟨cs,t,es,true⟩]):=by
 have lW:=Mu.C6 (l:=⟨a,o,arr.size,es⟩) (h.Bf H.length (Nat.le_refl _));have N5:jw (H.new ⟨cs,t,es,true⟩):=by
  intro i b hb;rcases aa.aL hb with⟨rfl,rfl⟩|⟨hi,hb⟩
  ·rfl
  ·exact jk i b hb
 refine⟨lW,⟨h.base,?_,?_,?_,?_,h.dT.keep lW (λ_ _=>aa.Bg) (λ_ _ h _=>h),λk hk=>by obtain⟨h1,h2⟩:=aa.vR hk;rw[Mu.dL (by omega)];exact h.vN k h1⟩,N5⟩
 ·intro i b hb;rcases aa.aL hb with⟨rfl,rfl⟩|⟨hi,hb⟩
  ·have h0:(true=false→fz=(0,0)):=λe=>by cases e
   exact⟨_,Mu.aP,rfl,PZ,(λe=>by cases e),arr,ty,fz,qU,rfl,h0,hle,hv.mono lW⟩
  ·obtain⟨l,h1,h2⟩:=h.ok i b hb;exact⟨l,lW _ _ h1,h2.mono lW⟩
 ·intro i hi;have hi:(H.new ⟨cs,t,es,true⟩).length≤i:=hi;rw[aa.kL] at hi;rw[Mu.dL (by omega)];exact h.Bf i (by omega)
 ·intro i j b c l m hb hc hl hm LO iB;rw[N5 i b hb] at iB;cases iB
 ·intro i b l hb iB hl;rw[N5 i b hb] at iB;cases iB
theorem DY {b off sz j:Nat}{cs:List Value}(h:w.cells? 0 (Addr.add ⟨b,off,none⟩ (j*sz)) sz=some cs)(uq:0<sz):
  ∃arr ty fz,w.heap[b]? =some (.cells arr ty fz)∧off+(j+1)*sz≤arr.size∧(arr.toList.drop (off+j*sz)).take sz=cs:=by
 obtain⟨_,hl,hc⟩:=World.cells?_some h;have h0: ∀i,i<sz→w.cell? ⟨b,off+j*sz+i,none⟩=cs[i]? :=by
  intro i hi;rw[←hc i hi,add_plain,add_plain]
 have h1:=h0 0 uq;rw[List.getElem?_eq_getElem (by omega)] at h1
 simp only[World.cell?] at h1;cases hb:w.heap[b]? with
 |none=>rw[hb] at h1;simp at h1
 |some ob=>
  cases ob with
  |cells arr ty fz=>
   have jk: ∀i,i<sz→arr[off+j*sz+i]? =cs[i]? :=by
    intro i hi;have:=h0 i hi
    simp only[World.cell?,hb] at this;simpa using this
   refine⟨arr,ty,fz,rfl,?_,?_⟩
   ·have:=jk (sz-1) (by omega)
    rw[List.getElem?_eq_getElem (by omega)] at this
    have:=(Array.getElem?_eq_some_iff.1 this).1
    rw[Nat.succ_mul];omega
   ·apply List.ext_getElem?;intro i;by_cases hi:i<sz
    ·rw[List.getElem?_take,if_pos hi,List.getElem?_drop,Array.getElem?_toList,jk i hi]
    ·rw[List.getElem?_take,if_neg hi,List.getElem?_eq_none (by omega)]
  |_=>rw[hb] at h1;simp at h1
theorem FK {arr:List Value}{off sz:Nat}(g:Nat→List Value): ∀n,(∀j,j<n→(arr.drop (off+j*sz)).take sz=g j)→
  ((List.range n).map g).flatten=(arr.drop off).take (n*sz):=by
 intro n;induction n with
 |zero=>intro _;simp
 |succ n ih=>
  intro h;rw[List.range_succ,List.map_append,List.flatten_append,ih (λj hj=>h j (by omega))]
  simp only[List.map_cons,List.map_nil,List.flatten_cons,List.flatten_nil,List.append_nil];rw[←h n (by omega),Nat.succ_mul,List.take_add,List.drop_drop]
theorem ZC: ∀f,N4 enc P w held B f:=by
 intro f;induction f with
 |zero=>intro t fuel cs x μ H h;simp[tx] at h
 |succ f ih=>
  intro t fuel cs x μ H eA hx hS hr;simp only[tx] at eA;split at eA
  ·rename_i ht;obtain⟨b,rfl,_⟩:=DataW.trod_bool ht hx;exact nh rfl rfl hS hr (by simp[In,ht])
  ·rename_i k ht;obtain⟨n,rfl,_,hw⟩:=DataW.trod_int ht hx;exact nh rfl rfl hS hr (by simp[In,ht,hw])
  ·rename_i ht;obtain⟨s,rfl,_,hw⟩:=DataW.trod_string ht hx;exact nh rfl rfl hS hr (by simp[In,ht,hw])
  ·rename_i fs ht;obtain⟨xs,n,rfl,rfl,hl,hxl,hf⟩:=DataW.trod_struct ht hx;rw[←hl] at eA;obtain⟨μ',T,HY,h1,h2,h3,h4,h5,h6⟩:=DX ih fs.toList 0 μ H (by simpa using eA) (λfd hfd=>by
    obtain⟨i,hi⟩:=List.getElem?_of_mem hfd;have sO:fs[i]? =some fd:=by simpa using hi
    have:=hf i fd sO
    have gB:i<xs.length:=by rw[hxl];exact(Array.getElem?_eq_some_iff.1 sO).1
    rw[List.getElem?_eq_getElem gB] at this;exact⟨_,this⟩) hS hr
   exact⟨μ',T,HY,h1,h2,h3,by simpa using h4,h5,by simp only[In,ht];exact h6⟩
  ·rename_i e ht;simp only[Bool.and_eq_true,decide_eq_true_eq] at eA;obtain⟨uq,ace⟩:=eA;rcases DataW.trod_slice ht hx with⟨rfl,_⟩|⟨a,len,cap,elems,rest,n,rfl,rfl,rfl,_,CX,hcm,ZD,he,Ub,_⟩
   ·exact nh rfl rfl hS hr (by simp[In,ht])
   ·obtain⟨hrl,sC⟩:=Ub rfl;have each: ∀j,j<cap→∃cs,w.cells? 0 (a.add (j*P.cellsOf e)) (P.cellsOf e)=some cs∧∃x,Rd enc P w held n e cs=some x:=by
     intro j hj;by_cases Af:j<len
     ·have:=he j Af
      rw[List.getElem?_eq_getElem (by omega),Option.bind_eq_some_iff] at this
      obtain⟨cs,h1,h2⟩:=this;exact⟨cs,h1,_,h2⟩
     ·have:=sC (j-len) (by omega)
      rw[List.getElem?_eq_getElem (by omega),show len+(j-len)=j by omega,Option.bind_eq_some_iff] at this
      obtain⟨cs,h1,h2⟩:=this;exact⟨cs,h1,_,h2⟩
    by_cases hc:cap=0
    ·subst hc;obtain rfl:len=0:=by omega
     obtain⟨s1,s2,s3⟩:=cJ.none hS hr a;refine⟨μ,[.dead],[.slice (some ⟨H.length,0,none⟩) 0 0],μ.le_refl,s1,s2,.cons s3 .nil,rfl,?_⟩;simp only[In,ht];exact .inr ⟨H.length,[],rfl,by simp,λh=>by simp at h,λx hx=>by cases hx⟩
    ·have Tj:a.spot=none:=by
      obtain⟨cs,h1,_⟩:=each 0 (by omega)
      obtain⟨_,hl,Aa⟩:=World.cells?_some h1;have:=Aa 0 uq
      rw[List.getElem?_eq_getElem (by omega)] at this
      simpa[Addr.add] using World.cell?_spot this
     obtain⟨b,off,spot⟩:=a;simp only at Tj;subst Tj;obtain⟨arr,ty,fz,qU,Gr,_⟩:=DY (each (cap-1) (by omega)).choose_spec.1 uq
     rw[show cap-1+1=cap by omega] at Gr
     let g:Nat→List Value:=λj=>(w.cells? 0 (Addr.add ⟨b,off,none⟩ (j*P.cellsOf e)) (P.cellsOf e)).getD []
     have hg: ∀j,j<cap→w.cells? 0 (Addr.add ⟨b,off,none⟩ (j*P.cellsOf e)) (P.cellsOf e)=some (g j):=by
      intro j hj;obtain⟨cs,h1,_⟩:=each j hj;show _=some ((w.cells? 0 _ _).getD [])
      rw[h1];rfl
     have hrd: ∀j,j<cap→(∃x,Rd enc P w held n e (g j)=some x)∧(g j).length=P.cellsOf e:=by
      intro j hj;obtain⟨cs,h1,h2⟩:=each j hj;have:=hg j hj
      rw[h1] at this;cases this;exact⟨h2,(World.cells?_some h1).2.1⟩
     obtain⟨μ1,T1,es,l1,s1,r1,n1,v1,o1,i1⟩:=FJ ih ace ((List.range len).map g) μ H (λcs qX=>by
      obtain⟨j,hj,rfl⟩:=List.mem_map.1 qX;exact hrd j (by have:=List.mem_range.1 hj;omega)) hS hr
     simp only[List.length_map,List.length_range] at n1;have EG:((List.range len).map g).flatten=(arr.toList.drop off).take (len*P.cellsOf e):=by
      refine FK g len ?_;intro j hj;obtain⟨adu,AG,fz',Tk,_,h3⟩:=DY (hg j (by omega)) uq
      rw[qU] at Tk;cases Tk;exact h3
     have adv:len*P.cellsOf e≤cap*P.cellsOf e:=Nat.mul_le_mul_right _ CX;have hln:es.flatten.length=len*P.cellsOf e:=by
      rw[v1.1,EG];simp;omega
     obtain⟨q1,q2,q3⟩:=cJ.ro' (es:=P.cellsOf e) s1 r1 qU es.flatten e o1 (show off+es.flatten.length≤arr.size by omega) (by rw[hln, ←EG];exact v1)
     refine⟨_,T1++[.y7 ⟨es.flatten,e,P.cellsOf e,true⟩],[.slice (some ⟨(H++T1).length,0,none⟩) len len],Mu.le_trans l1 q1,by rw[←List.append_assoc];exact q2,by rw[←List.append_assoc];exact q3,?_,rfl,?_⟩
     ·refine .cons ?_ .nil;have:=VR.slice (μ:=μ1.up (H++T1).length ⟨b,off,arr.size,P.cellsOf e⟩) (H++T1).length 0 len len cap ⟨b,off,arr.size,P.cellsOf e⟩ Mu.aP (Nat.le_refl _) CX (by simpa using Gr)
      simpa using this
     ·simp only[In,ht];refine .inr ⟨(H++T1).length,es,by rw[n1],by omega,λ_=>?_,λx hx=>⟨(i1 x hx).1,?_⟩⟩
      ·rw[←List.append_assoc];exact aa.kB (H:=H++T1) (b:=⟨es.flatten,e,P.cellsOf e,true⟩)
      ·rw[←List.append_assoc];exact In.mono _ _ _ (i1 x hx).2
  ·cases eA
def lR (P:Program)(H:aa)(f:Nat)(t:TypeId)(v:Value):Prop:=
 ∃cs,In P H f t cs∧match P.underlying t with
  |some (.struct _)=>v= .agg cs.toArray
  |_=>cs=[v]
def yz (P:Program)(H:aa)(f:Nat):List TypeId→List Value→Prop
 | [],vs=>vs=[]
 |t::ts,vs=>∃v r,vs=v::r∧lR P H f t v∧yz P H f ts r
theorem yA {v:Value}(h: ∀cs,v≠ .agg cs):v.cells.toList=[v]:=by
 cases v<;>first|rfl| (exact absurd rfl (h _))
theorem N6 {r:Reach}{b0:Nat}{f:Nat}{t:TypeId}{v:Value}{d:DataW A}{ps:List MemPlace}(eA:tx P f t=true)(oC:Value.okWide P w r b0 t v)(hd:DataW.Trod enc P w 0 (λ_=>true) held t v d ps)(hS:cJ P μ H w B)(hr:jw H): ∃μ' T a,μ.le μ'∧cJ P μ' (H++T) w B∧jw (H++T)∧VR μ' a v∧lR P (H++T) f t a:=by
 obtain⟨fuel,hf⟩:=hd;obtain⟨μ',T,HY,h1,h2,h3,h4,h5,h6⟩:=ZC f _ _ _ _ μ H eA hf hS hr;have single:(∀fs,P.underlying t≠some (.struct fs))→(∀cs,v≠ .agg cs)→∃μ' T a,μ.le μ'∧cJ P μ' (H++T) w B∧jw (H++T)∧VR μ' a v∧lR P (H++T) f t a:=by
  intro hns hna;rw[yA hna] at h4;obtain⟨a,rfl⟩: ∃a,HY=[a]:=by
   have:=h4.1
   match HY,this with
   | [a],_=>exact⟨a,rfl⟩
  obtain⟨b,y,e,h7,h8⟩:=h4.fq;cases e;refine⟨μ',T,a,h1,h2,h3,h7,[a],h6,?_⟩;split
  ·rename_i fs e;exact absurd e (hns _)
  ·rfl
 cases f with
 |zero=>simp[tx] at eA
 |succ f=>
  simp only[tx] at eA;split at eA
  ·rename_i ht;obtain⟨b,rfl⟩:=okWide_bool ht oC;exact single (by simp[ht]) (by simp)
  ·rename_i k ht;obtain⟨n,rfl⟩:=okWide_int ht oC;exact single (by simp[ht]) (by simp)
  ·rename_i ht;obtain⟨s,rfl⟩:=okWide_string ht oC;exact single (by simp[ht]) (by simp)
  ·rename_i fs ht;unfold Value.okWide at oC;rw[ht] at oC;obtain⟨cs,rfl,_⟩:=oC;refine⟨μ',T,.agg HY.toArray,h1,h2,h3,cT.agg (by simpa[Value.cells] using h4),HY,h6,by rw[ht]⟩
  ·rename_i e ht;obtain⟨a,len,cap,rfl⟩:=okWide_slice ht oC;exact single (by simp[ht]) (by simp)
  ·cases eA
theorem KU {r:Reach}{b0:Nat}{f:Nat}: ∀(ts:List TypeId) (vs:List Value) (ds:List (DataW A)) (ps:List MemPlace) (μ:Mu) (H:aa),(ts.all (tx P f))=true→
  (∀(j:Nat) t v,ts[j]? =some t→vs[j]? =some v→Value.okWide P w r b0 t v)→DataW.TrodAll enc P w 0 (λ_=>true) held ts vs ds ps→cJ P μ H w B→jw H→
  ∃μ' T aq',μ.le μ'∧cJ P μ' (H++T) w B∧jw (H++T)∧cT μ' aq' vs∧yz P (H++T) f ts aq':=by
 intro ts;induction ts with
 |nil=>
  intro vs ds ps μ H _ _ h hS hr;obtain⟨rfl,_,_⟩:=trodAll_nil h;exact⟨μ,[],[],μ.le_refl,by simpa using hS,by simpa using hr,.nil,rfl⟩
 |cons t ts ih=>
  intro vs ds ps μ H eA oC h hS hr;simp only[List.all_cons,Bool.and_eq_true] at eA;obtain⟨v,iU,d,ds',p,q,rfl,rfl,rfl,h1,h2⟩:=trodAll_cons h;obtain⟨μ1,T1,a,l1,s1,r1,v1,i1⟩:=N6 eA.1 (oC 0 t v rfl rfl) h1 hS hr;obtain⟨μ2,T2,aq',l2,s2,r2,v2,i2⟩:=ih iU ds' q μ1 (H++T1) eA.2 (λj t' v' e1 e2=>oC (j+1) t' v' (by simpa using e1) (by simpa using e2)) h2 s1 r1
  refine⟨μ2,T1++T2,a::aq',Mu.le_trans l1 l2,by rw[←List.append_assoc];exact s2,by rw[←List.append_assoc];exact r2,.cons (v1.mono l2) v2,a,aq',rfl,?_,?_⟩
  ·obtain⟨cs,k1,k2⟩:=i1;exact⟨cs,by rw[←List.append_assoc];exact In.mono _ _ _ k1,k2⟩
  ·rw[←List.append_assoc];exact i2
theorem KV (hl:laidOutB P=true): ∀(ts:List TypeId) (vs:List Value) (ds:List (DataW A)) (ps:List MemPlace) {W':World},(ts.all λt=>P.readableRec t&&decide (t<P.types.size))=true→
  DataW.TrodAll enc P w 0 (λ_=>true) true ts vs ds ps→Below w.heap.size w W'→(∀x∈ps,x.block<w.heap.size)→
  DataW.TrodAll enc P W' 0 (λb=>decide (b<w.heap.size)) true ts vs ds ps:=by
 intro ts;induction ts with
 |nil=>
  intro vs ds ps W' _ h _ _;obtain⟨rfl,rfl,rfl⟩:=trodAll_nil h;exact trodAll_mk0
 |cons t ts ih=>
  intro vs ds ps W' eA h hb gB;simp only[List.all_cons,Bool.and_eq_true,decide_eq_true_eq] at eA;obtain⟨v,iU,d,ds',p,q,rfl,rfl,rfl,h1,h2⟩:=trodAll_cons h;exact trodAll_cons_mk (Below.trod hl eA.1.1 eA.1.2 h1 hb λx hx=>gB x (List.mem_append_left _ hx)) (ih iU ds' q eA.2 h2 hb λx hx=>gB x (List.mem_append_right _ hx))
def Tl (P:Program)(f:FuncId)(ts:List TypeId):Prop:=
 ∀W:World,∀H args μ,jw H→yz P H 9 ts args→cJ P μ H W W.heap.size→∀vs,cT μ args vs→
  Calls P f vs.toArray W λe W'=>e= .returned (.bool true)∧Below W.heap.size W W'
theorem Tl.walk {f:FuncId}{ts:List TypeId}(h:Tl P f ts)(eA:(ts.all (tx P 9))=true){r:Reach}{b0:Nat}{vs:List Value}{ds:List (DataW A)}{ps:List MemPlace}(oC: ∀(j:Nat) t v,ts[j]? =some t→vs[j]? =some v→Value.okWide P w r b0 t v)(hA:DataW.TrodAll enc P w 0 (λ_=>true) held ts vs ds ps):
  Calls P f vs.toArray w λe W'=>e= .returned (.bool true)∧Below w.heap.size w W':=by
 obtain⟨μ,T,aq',_,s,r,v,i⟩:=KU ts vs ds ps (λ_=>none) [] eA oC hA (cJ.empty w) (λi b h=>by simp[aa.get] at h)
 exact h w ([]++T) aq' μ r i s vs v
theorem Tl.N7 {f:FuncId}{ts:List TypeId}(ks:List FuncId)(m:Nat)(hp:mK P (oj P)=true)(Gz:mK P (ks++oj P)=true)(hk:(ks.all λk=>(gr P (oj P) LS m k [] []).any λr=>pG r.1 (.bool true))=true)(h: ∀H args,jw H→yz P H 9 ts args→∃n H',gr P (ks++oj P) (qC ks) n f args H=some (.bool true,H')):Tl P f ts:=by
 intro W H args μ hr hi hS vs hv;obtain⟨n,H',h⟩:=h H args hr hi;exact yy hp Gz hk h hS hv
end Go.Proofs.YtgfgglponbmgmaaGreatA.Am
end
