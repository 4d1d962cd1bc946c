/- Texts of the proof of dcssPlays_holds, put together by a small program of ours (names shortened, spaces taken out). No condition beyond the given statement. -/
import Derived.Test.YtgfgglponbmgmaaGreatDCP8
import Derived.ChangeArms
import Derived.Carry
import Derived.OpenShut
import Derived.ChangeOld
import Derived.ChangeMaps5
set_option linter.unusedVariables false
set_option linter.unusedSimpArgs false
set_option linter.unnecessarySimpa false
noncomputable section
section
open Go.RowKit
namespace Go.Proofs.YtgfgglponbmgmaaGreatA.Am
variable {P:Program} {μ:Mu} {H H':aa} {w:World} {B:Nat}
theorem cO.below {w':World}(h:cO P μ H w B)(b:Below w.heap.size w w'):cO P μ H w' B:=
 ⟨Nat.le_trans h.base b.size,λi c hi=>by
  obtain⟨l,hl,hb⟩:=h.ok i c hi;exact⟨l,hl,hb.heap (b.block _ hb.lt)⟩,h.BF,h.inj,h.own,h.dZ.keep μ.le_refl (λ_ _ h=>h) (λk x hk _=>(b.block _ (Array.getElem?_eq_some_iff.1 hk).1).trans hk),h.wv⟩
theorem EI {bad:List FuncId}{m:Nat}{k:FuncId}{Hk:aa}(dH:mW P bad=true)(hk:gC P bad Nn m k [] []=some (.bool true,Hk))(B:Nat)(H:aa):
  (∃fn,P.funcs[k]? =some fn∧fn.body.isSome=true∧(fn.name== "runtime.NumGoroutine")=false)∧BU P B k [] H (.bool true) H:=by
 have gF:k<P.funcs.size:=Eb (cO.empty default) (λ_ h=>by simp[Nn] at h) hk
 refine⟨(((oG (B:=0) dH (G:=Nn) Ec (λf args H v H' _ h=>by simp[Nn] at h) m).told k [] [] _ Hk hk).1 gF).1,?_⟩
 intro μ w fq hS ha;have hs:=oG (B:=w.heap.size) dH (G:=Nn) Ec (λf args H v H' _ h=>by simp[Nn] at h) m |>.told k [] [] _ Hk hk
 have ha0:fq=[]:=by
  have:=ha.1
  simpa using this.symm
 subst ha0;refine((hs.1 gF).2 _ w [] (cO.empty w) .nil).mono ?_;rintro e w' ⟨v',μ',rfl,_,hv,_,hb⟩;rw[hv.bool];exact⟨_,μ,rfl,μ.le_refl,.plain _ rfl,hS.below hb.below,⟨hb.below.mono hS.base,hb.loops,hb.dfr,hb.size⟩⟩
def qJ (ks:List FuncId):ae:=λf args H=>if ks.contains f=true∧args.isEmpty=true then some (.bool true,H) else none
theorem EJ {ks:List FuncId}:gJ (qJ ks):=λf args H i b hf v H' h=>by
 unfold qJ at h ⊢;split at h
 ·rename_i hc;cases h;rw[if_pos hc];exact⟨hf,rfl⟩
 ·cases h
theorem yW {bad ks:List FuncId}{m n:Nat}{f:FuncId}{args fq:List Value}(dH:mW P bad=true)(Mq:mW P (ks++bad)=true)(hk:(ks.all λk=>(gC P bad Nn m k [] []).any λr=>oj r.1 (.bool true))=true)(h:gC P (ks++bad) (qJ ks) n f args H=some (.bool true,H'))(hS:cO P μ H w w.heap.size)(ha:cU μ args fq):
  Calls P f fq.toArray w λe w'=>e= .returned (.bool true)∧Below w.heap.size w w':=by
 have hG: ∀f1 Jj H1 v1 Rc,(ks++bad).contains f1=true→qJ ks f1 Jj H1=some (v1,Rc)→
   (∃fn,P.funcs[f1]? =some fn∧fn.body.isSome=true∧(fn.name== "runtime.NumGoroutine")=false)∧BU P w.heap.size f1 Jj H1 v1 Rc:=λf1 Jj H1 v1 Rc _ h1=>by
  unfold qJ at h1;split at h1
  ·rename_i h2;obtain⟨h3,h2⟩:=h2;have h2:Jj=[]:=by simpa using h2
   subst h2;cases h1;have hm:=List.all_eq_true.1 hk f1 (by simpa using h3)
   cases hr:gC P bad Nn m f1 [] [] with
   |none=>rw[hr] at hm;simp at hm
   |some r=>
    obtain⟨v,Hk⟩:=r;rw[hr] at hm;have hv:v= .bool true:=by
     simp only[Option.any_some,oj] at hm;cases v<;>simp_all [zS]
    subst hv;exact EI dH hr _ _
  ·cases h1
 have hs:=(oG (B:=w.heap.size) Mq EJ hG n).told f args H _ H' h;have gF:f<P.funcs.size:=Eb hS (λhb h=>by
  obtain⟨⟨fn,zO,_⟩,_⟩:=hG _ _ _ _ _ hb h;exact(Array.getElem?_eq_some_iff.1 zO).1) h
 refine((hs.1 gF).2 μ w fq hS ha).mono ?_;rintro e w' ⟨v',μ',rfl,_,hv,_,hb⟩;exact⟨by rw[hv.bool],hb.below⟩
theorem get_none {i:Nat}:aa.get (H++[.dead]) i=H.get i:=by
 unfold aa.get;by_cases h:i<H.length
 ·rw[List.getElem?_append_left h]
 ·rw[List.getElem?_append_right (by omega),List.getElem?_eq_none (show H.length≤i by omega)]
  by_cases h2:i-H.length=0
  ·rw[h2];rfl
  ·rw[List.getElem?_eq_none (by simp;omega)]
theorem PB {i:Nat}:aa.dZ (H++[.dead]) i=H.dZ i:=by
 unfold aa.dZ;by_cases h:i<H.length
 ·rw[List.getElem?_append_left h]
 ·rw[List.getElem?_append_right (by omega),List.getElem?_eq_none (show H.length≤i by omega)]
  by_cases h2:i-H.length=0
  ·rw[h2];rfl
  ·rw[List.getElem?_eq_none (by simp;omega)]
theorem cO.none (h:cO P μ H w B)(jz: ∀i b,H.get i=some b→b.ro=true)(a:Addr):
  cO P μ (H++[.dead]) w B∧(∀i b,aa.get (H++[.dead]) i=some b→b.ro=true)∧VR μ (.slice (some ⟨H.length,0,none⟩) 0 0) (.slice (some a) 0 0):=by
 refine⟨⟨h.base,λi b hb=>h.ok i b (by rwa [get_none] at hb),λi hi=>h.BF i (by simp at hi;omega),λi j b c l m hb hc=>?_,λi b l hb=>?_,h.dZ.keep μ.le_refl (λi o hi=>by rwa [PB] at hi) (λ_ _ h _=>h),λk hk=>h.wv k (by
  by_cases e:k<H.length
  ·rwa [List.getElem?_append_left e] at hk
  ·have hl:=(List.getElem?_eq_some_iff.1 hk).1;have:k=H.length:=by simp at hl;omega
   subst this;simp at hk)⟩,λi b hb=>jz i b (by rwa [get_none] at hb),.mi _ _ _⟩
 ·rw[get_none] at hb hc;exact h.inj i j b c l m hb hc
 ·rw[get_none] at hb;exact h.own i b l hb
end Go.Proofs.YtgfgglponbmgmaaGreatA.Am
end
section
open Go.RowKit Go.WideShapes Go.ChangeShapes
namespace Go.Proofs.YtgfgglponbmgmaaGreatA.Am
variable {P:Program} {μ:Mu} {H:aa} {w:World} {B:Nat}
def jF (H:aa):Prop:=∀i b,H.get i=some b→b.ro=true
def jZ (P:Program)(ok:TypeId→Bool):List Field→Nat→Option Nat
 | [],o=>some o
 |f::r,o=>if f.offset=o∧ok f.type=true then jZ P ok r (o+P.cellsOf f.type) else none
def tW (P:Program):Nat→TypeId→Bool
 |0,_=>false
 |f+1,t=>match P.underlying t with
  |some .bool=>true
  |some (.int _)=>true
  |some .string=>true
  |some (.struct fs)=>jZ P (tW P f) fs.toList 0==some (P.cellsOf t)
  |some (.slice e)=>decide (0<P.cellsOf e)&&tW P f e
  |_=>false
def j8 (P:Program)(q:TypeId→List Value→Prop):List Field→List Value→Prop
 | [],cs=>cs=[]
 |f::r,cs=>∃a b,cs=a++b∧a.length=P.cellsOf f.type∧q f.type a∧j8 P q r b
def In (P:Program)(H:aa):Nat→TypeId→List Value→Prop
 |0,_,_=>False
 |f+1,t,cs=>match P.underlying t with
  |some .bool=>∃b,cs=[.bool b]
  |some (.int k)=>∃n,cs=[.int k n]∧(Lit.int k n).wf=true
  |some .string=>∃s:ByteArray,cs=[.string s]∧s.size≤maxLen
  |some (.struct fs)=>j8 P (In P H f) fs.toList cs
  |some (.slice e)=>cs=[.slice none 0 0]∨∃(i:Nat) (es:List (List Value)),cs=[.slice (some ⟨i,0,none⟩) es.length es.length]∧es.length≤maxLen∧
    (0<es.length→H.get i=some ⟨es.flatten,e,P.cellsOf e,true⟩)∧∀x,x∈es→x.length=P.cellsOf e∧In P H f e x
  |_=>False
theorem Tf {T:aa}{i:Nat}{b:eS}(h:H.get i=some b):aa.get (H++T) i=some b:=by
 have:=aa.ar h
 unfold aa.get at h ⊢;rw[List.getElem?_append_left this];exact h
theorem j8.mono {q q':TypeId→List Value→Prop}(h: ∀t cs,q t cs→q' t cs): ∀(fs:List Field) (cs:List Value),j8 P q fs cs→j8 P q' fs cs
 | [],_,k=>k
 |_::r,_,⟨a,b,e,l,x,y⟩=>⟨a,b,e,l,h _ _ x,j8.mono h r b y⟩
theorem In.mono {T:aa}: ∀(f:Nat) (t:TypeId) (cs:List Value),In P H f t cs→In P (H++T) f t cs:=by
 intro f;induction f with
 |zero=>intro t cs h;exact h
 |succ f ih=>
  intro t cs h;unfold In at h ⊢;split<;>simp_all only
  ·exact j8.mono ih _ _ h
  ·rcases h with h|⟨i,es,h1,h2,h3,h4⟩
   ·exact .inl h
   ·exact .inr ⟨i,es,h1,h2,λhp=>Tf (h3 hp),λx hx=>⟨(h4 x hx).1,ih _ _ (h4 x hx).2⟩⟩
variable {A:Type} {enc:TypeId×Value→A} {held:Bool}
abbrev Rd (enc:TypeId×Value→A)(P:Program)(w:World)(held:Bool):=DataW.trod enc P w 0 (λ_=>true) held
def Got (P:Program)(w:World)(B:Nat)(μ:Mu)(H:aa)(f:Nat)(t:TypeId)(cs:List Value):Prop:=
 ∃μ' T Jk,μ.le μ'∧cO P μ' (H++T) w B∧jF (H++T)∧cU μ' Jk cs∧Jk.all aC=true∧In P (H++T) f t Jk
def PC (enc:TypeId×Value→A)(P:Program)(w:World)(held:Bool)(B f:Nat):Prop:=
 ∀t fuel cs x μ H,tW P f t=true→Rd enc P w held fuel t cs=some x→cO P μ H w B→jF H→Got P w B μ H f t cs
theorem nu {f:Nat}{t:TypeId}{v:Value}(hp:cu v=true)(ho:aC v=true)(hS:cO P μ H w B)(hr:jF H)(hi:In P H f t [v]):Got P w B μ H f t [v]:=
 ⟨μ,[],[v],μ.le_refl,by simpa using hS,by simpa using hr,.cons (.plain _ hp) .nil,by simp[ho],by simpa using hi⟩
theorem EK {f:Nat}(L:PC enc P w held B f){n:Nat}{cs:List Value}: ∀(fs:List Field) (o:Nat) (μ:Mu) (H:aa),jZ P (tW P f) fs o=some cs.length→
  (∀fd∈fs,∃x,Rd enc P w held n fd.type ((cs.drop fd.offset).take (P.cellsOf fd.type))=some x)→cO P μ H w B→jF H→
  ∃μ' T Jk,μ.le μ'∧cO P μ' (H++T) w B∧jF (H++T)∧cU μ' Jk (cs.drop o)∧Jk.all aC=true∧j8 P (In P (H++T) f) fs Jk:=by
 intro fs;induction fs with
 |nil=>
  intro o μ H ho _ hS hr;simp only[jZ] at ho;cases ho;exact⟨μ,[],[],μ.le_refl,by simpa using hS,by simpa using hr,by simpa using cU.nil,rfl,rfl⟩
 |cons fd r ih=>
  intro o μ H ho hx hS hr;simp only[jZ] at ho;split at ho
  ·rename_i hc;obtain⟨rfl,dH⟩:=hc;obtain⟨x,Ra⟩:=hx fd (List.mem_cons_self ..);obtain⟨μ1,T1,a1,l1,s1,r1,v1,o1,i1⟩:=L _ _ _ _ μ H dH Ra hS hr;obtain⟨μ2,T2,a2,l2,s2,r2,v2,o2,i2⟩:=ih _ μ1 (H++T1) ho (λfd' h'=>hx fd' (List.mem_cons_of_mem _ h')) s1 r1
   have hlen:(cs.drop fd.offset).take (P.cellsOf fd.type)++cs.drop (fd.offset+P.cellsOf fd.type)=cs.drop fd.offset:=by
    rw[←List.drop_drop,List.take_append_drop]
   have RA:a1.length=P.cellsOf fd.type:=by
    have h1:=v1.1;have h2:=hlen;have:fd.offset+P.cellsOf fd.type≤cs.length:=by
     have key: ∀(fs:List Field) (o:Nat) m,jZ P (tW P f) fs o=some m→o≤m:=by
      intro fs;induction fs with
      |nil=>intro o m h;simp only[jZ] at h;cases h;exact Nat.le_refl _
      |cons g r ih=>
       intro o m h;simp only[jZ] at h;split at h
       ·have:=ih _ _ h;omega
       ·cases h
     exact key _ _ _ ho
    rw[h1];simp;omega
   refine⟨μ2,T1++T2,a1++a2,Mu.le_trans l1 l2,by rw[←List.append_assoc];exact s2,by rw[←List.append_assoc];exact r2,?_,by simp[o1,o2],a1,a2,rfl,RA,?_,?_⟩
   ·rw[←hlen];exact(v1.mono l2).append v2
   ·rw[←List.append_assoc];exact In.mono _ _ _ i1
   ·rw[←List.append_assoc];exact i2
  ·cases ho
theorem GP {f:Nat}(L:PC enc P w held B f){n:Nat}{e:TypeId}(dH:tW P f e=true): ∀(css:List (List Value)) (μ:Mu) (H:aa),(∀cs∈css,(∃x,Rd enc P w held n e cs=some x)∧cs.length=P.cellsOf e)→cO P μ H w B→jF H→
  ∃(μ':Mu) (T:aa) (es:List (List Value)),μ.le μ'∧cO P μ' (H++T) w B∧jF (H++T)∧es.length=css.length∧cU μ' es.flatten css.flatten∧es.flatten.all aC=true∧∀x,x∈es→x.length=P.cellsOf e∧In P (H++T) f e x:=by
 intro css;induction css with
 |nil=>intro μ H _ hS hr;exact⟨μ,[],[],μ.le_refl,by simpa using hS,by simpa using hr,rfl,by simpa using cU.nil,rfl,λx hx=>by cases hx⟩
 |cons cs r ih=>
  intro μ H hx hS hr;obtain⟨⟨x,Ra⟩,hl⟩:=hx cs (List.mem_cons_self ..);obtain⟨μ1,T1,a1,l1,s1,r1,v1,o1,i1⟩:=L _ _ _ _ μ H dH Ra hS hr;obtain⟨μ2,T2,es,l2,s2,r2,n2,v2,o2,i2⟩:=ih μ1 (H++T1) (λc h'=>hx c (List.mem_cons_of_mem _ h')) s1 r1
  refine⟨μ2,T1++T2,a1::es,Mu.le_trans l1 l2,by rw[←List.append_assoc];exact s2,by rw[←List.append_assoc];exact r2,by simp[n2],?_,by simp only[List.flatten_cons,List.all_append,o1,o2,Bool.and_self],?_⟩
  ·simp only[List.flatten_cons];exact(v1.mono l2).append v2
  ·intro y hy;rcases List.mem_cons.1 hy with rfl|hy
   ·exact⟨by rw[v1.1,hl],by rw[←List.append_assoc];exact In.mono _ _ _ i1⟩
   ·rw[←List.append_assoc];exact i2 y hy
theorem cO.ro' (h:cO P μ H w B)(jz:jF H){a o es:Nat}{arr:Array Value}{ty:TypeId}{fz:Nat×Nat}(q8:w.heap[a]? =some (.cells arr ty fz))(cs:List Value)(t:TypeId)(Rq:cs.all aC=true)(hle:o+cs.length≤arr.size)(hv:cU μ cs ((arr.toList.drop o).take cs.length)):
  μ.le (μ.up H.length ⟨a,o,arr.size,es⟩)∧cO P (μ.up H.length ⟨a,o,arr.size,es⟩) (H++[.zK ⟨cs,t,es,true⟩]) w B∧jF (H++[.zK ⟨cs,t,es,true⟩]):=by
 have ml:=Mu.DC (l:=⟨a,o,arr.size,es⟩) (h.BF H.length (Nat.le_refl _));have PD:jF (H.new ⟨cs,t,es,true⟩):=by
  intro i b hb;rcases aa.aK hb with⟨rfl,rfl⟩|⟨hi,hb⟩
  ·rfl
  ·exact jz i b hb
 refine⟨ml,⟨h.base,?_,?_,?_,?_,h.dZ.keep ml (λ_ _=>aa.BG) (λ_ _ h _=>h),λk hk=>by obtain⟨h1,h2⟩:=aa.wD hk;rw[Mu.dO (by omega)];exact h.wv k h1⟩,PD⟩
 ·intro i b hb;rcases aa.aK hb with⟨rfl,rfl⟩|⟨hi,hb⟩
  ·have h0:(true=false→fz=(0,0)):=λe=>by cases e
   exact⟨_,Mu.aO,rfl,Rq,(λe=>by cases e),arr,ty,fz,q8,rfl,h0,hle,hv.mono ml⟩
  ·obtain⟨l,h1,h2⟩:=h.ok i b hb;exact⟨l,ml _ _ h1,h2.mono ml⟩
 ·intro i hi;have hi:(H.new ⟨cs,t,es,true⟩).length≤i:=hi;rw[aa.kS] at hi;rw[Mu.dO (by omega)];exact h.BF i (by omega)
 ·intro i j b c l m hb hc hl hm Nj iJ;rw[PD i b hb] at iJ;cases iJ
 ·intro i b l hb iJ hl;rw[PD i b hb] at iJ;cases iJ
theorem EL {b off sz j:Nat}{cs:List Value}(h:w.cells? 0 (Addr.add ⟨b,off,none⟩ (j*sz)) sz=some cs)(uS:0<sz):
  ∃arr ty fz,w.heap[b]? =some (.cells arr ty fz)∧off+(j+1)*sz≤arr.size∧(arr.toList.drop (off+j*sz)).take sz=cs:=by
 obtain⟨_,hl,hc⟩:=World.cells?_some h;have h0: ∀i,i<sz→w.cell? ⟨b,off+j*sz+i,none⟩=cs[i]? :=by
  intro i hi;rw[←hc i hi,add_plain,add_plain]
 have h1:=h0 0 uS;rw[List.getElem?_eq_getElem (by omega)] at h1
 simp only[World.cell?] at h1;cases hb:w.heap[b]? with
 |none=>rw[hb] at h1;simp at h1
 |some ob=>
  cases ob with
  |cells arr ty fz=>
   have jz: ∀i,i<sz→arr[off+j*sz+i]? =cs[i]? :=by
    intro i hi;have:=h0 i hi
    simp only[World.cell?,hb] at this;simpa using this
   refine⟨arr,ty,fz,rfl,?_,?_⟩
   ·have:=jz (sz-1) (by omega)
    rw[List.getElem?_eq_getElem (by omega)] at this
    have:=(Array.getElem?_eq_some_iff.1 this).1
    rw[Nat.succ_mul];omega
   ·apply List.ext_getElem?;intro i;by_cases hi:i<sz
    ·rw[List.getElem?_take,if_pos hi,List.getElem?_drop,Array.getElem?_toList,jz i hi]
    ·rw[List.getElem?_take,if_neg hi,List.getElem?_eq_none (by omega)]
  |_=>rw[hb] at h1;simp at h1
theorem GQ {arr:List Value}{off sz:Nat}(g:Nat→List Value): ∀n,(∀j,j<n→(arr.drop (off+j*sz)).take sz=g j)→
  ((List.range n).map g).flatten=(arr.drop off).take (n*sz):=by
 intro n;induction n with
 |zero=>intro _;simp
 |succ n ih=>
  intro h;rw[List.range_succ,List.map_append,List.flatten_append,ih (λj hj=>h j (by omega))]
  simp only[List.map_cons,List.map_nil,List.flatten_cons,List.flatten_nil,List.append_nil];rw[←h n (by omega),Nat.succ_mul,List.take_add,List.drop_drop]
theorem aa0: ∀f,PC enc P w held B f:=by
 intro f;induction f with
 |zero=>intro t fuel cs x μ H h;simp[tW] at h
 |succ f ih=>
  intro t fuel cs x μ H dH hx hS hr;simp only[tW] at dH;split at dH
  ·rename_i ht;obtain⟨b,rfl,_⟩:=DataW.trod_bool ht hx;exact nu rfl rfl hS hr (by simp[In,ht])
  ·rename_i k ht;obtain⟨n,rfl,_,hw⟩:=DataW.trod_int ht hx;exact nu rfl rfl hS hr (by simp[In,ht,hw])
  ·rename_i ht;obtain⟨s,rfl,_,hw⟩:=DataW.trod_string ht hx;exact nu rfl rfl hS hr (by simp[In,ht,hw])
  ·rename_i fs ht;obtain⟨xs,n,rfl,rfl,hl,hxl,hf⟩:=DataW.trod_struct ht hx;rw[←hl] at dH;obtain⟨μ',T,Jk,h1,h2,h3,h4,h5,h6⟩:=EK ih fs.toList 0 μ H (by simpa using dH) (λfd hfd=>by
    obtain⟨i,hi⟩:=List.getElem?_of_mem hfd;have qt:fs[i]? =some fd:=by simpa using hi
    have:=hf i fd qt
    have gF:i<xs.length:=by rw[hxl];exact(Array.getElem?_eq_some_iff.1 qt).1
    rw[List.getElem?_eq_getElem gF] at this;exact⟨_,this⟩) hS hr
   exact⟨μ',T,Jk,h1,h2,h3,by simpa using h4,h5,by simp only[In,ht];exact h6⟩
  ·rename_i e ht;simp only[Bool.and_eq_true,decide_eq_true_eq] at dH;obtain⟨uS,acU⟩:=dH;rcases DataW.trod_slice ht hx with⟨rfl,_⟩|⟨a,len,cap,elems,rest,n,rfl,rfl,rfl,_,Dw,hcm,hel,he,Wa,_⟩
   ·exact nu rfl rfl hS hr (by simp[In,ht])
   ·obtain⟨hrl,rI⟩:=Wa rfl;have each: ∀j,j<cap→∃cs,w.cells? 0 (a.add (j*P.cellsOf e)) (P.cellsOf e)=some cs∧∃x,Rd enc P w held n e cs=some x:=by
     intro j hj;by_cases AJ:j<len
     ·have:=he j AJ
      rw[List.getElem?_eq_getElem (by omega),Option.bind_eq_some_iff] at this
      obtain⟨cs,h1,h2⟩:=this;exact⟨cs,h1,_,h2⟩
     ·have:=rI (j-len) (by omega)
      rw[List.getElem?_eq_getElem (by omega),show len+(j-len)=j by omega,Option.bind_eq_some_iff] at this
      obtain⟨cs,h1,h2⟩:=this;exact⟨cs,h1,_,h2⟩
    by_cases hc:cap=0
    ·subst hc;obtain rfl:len=0:=by omega
     obtain⟨s1,s2,s3⟩:=cO.none hS hr a;refine⟨μ,[.dead],[.slice (some ⟨H.length,0,none⟩) 0 0],μ.le_refl,s1,s2,.cons s3 .nil,rfl,?_⟩;simp only[In,ht];exact .inr ⟨H.length,[],rfl,by simp,λh=>by simp at h,λx hx=>by cases hx⟩
    ·have Vl:a.spot=none:=by
      obtain⟨cs,h1,_⟩:=each 0 (by omega)
      obtain⟨_,hl,AE⟩:=World.cells?_some h1;have:=AE 0 uS
      rw[List.getElem?_eq_getElem (by omega)] at this
      simpa[Addr.add] using World.cell?_spot this
     obtain⟨b,off,spot⟩:=a;simp only at Vl;subst Vl;obtain⟨arr,ty,fz,q8,HI,_⟩:=EL (each (cap-1) (by omega)).choose_spec.1 uS
     rw[show cap-1+1=cap by omega] at HI
     let g:Nat→List Value:=λj=>(w.cells? 0 (Addr.add ⟨b,off,none⟩ (j*P.cellsOf e)) (P.cellsOf e)).getD []
     have hg: ∀j,j<cap→w.cells? 0 (Addr.add ⟨b,off,none⟩ (j*P.cellsOf e)) (P.cellsOf e)=some (g j):=by
      intro j hj;obtain⟨cs,h1,_⟩:=each j hj;show _=some ((w.cells? 0 _ _).getD [])
      rw[h1];rfl
     have hrd: ∀j,j<cap→(∃x,Rd enc P w held n e (g j)=some x)∧(g j).length=P.cellsOf e:=by
      intro j hj;obtain⟨cs,h1,h2⟩:=each j hj;have:=hg j hj
      rw[h1] at this;cases this;exact⟨h2,(World.cells?_some h1).2.1⟩
     obtain⟨μ1,T1,es,l1,s1,r1,n1,v1,o1,i1⟩:=GP ih acU ((List.range len).map g) μ H (λcs rb=>by
      obtain⟨j,hj,rfl⟩:=List.mem_map.1 rb;exact hrd j (by have:=List.mem_range.1 hj;omega)) hS hr
     simp only[List.length_map,List.length_range] at n1;have Fy:((List.range len).map g).flatten=(arr.toList.drop off).take (len*P.cellsOf e):=by
      refine GQ g len ?_;intro j hj;obtain⟨aee,Be,fz',Vm,_,h3⟩:=EL (hg j (by omega)) uS
      rw[q8] at Vm;cases Vm;exact h3
     have aef:len*P.cellsOf e≤cap*P.cellsOf e:=Nat.mul_le_mul_right _ Dw;have hln:es.flatten.length=len*P.cellsOf e:=by
      rw[v1.1,Fy];simp;omega
     obtain⟨q1,q2,q3⟩:=cO.ro' (es:=P.cellsOf e) s1 r1 q8 es.flatten e o1 (show off+es.flatten.length≤arr.size by omega) (by rw[hln, ←Fy];exact v1)
     refine⟨_,T1++[.zK ⟨es.flatten,e,P.cellsOf e,true⟩],[.slice (some ⟨(H++T1).length,0,none⟩) len len],Mu.le_trans l1 q1,by rw[←List.append_assoc];exact q2,by rw[←List.append_assoc];exact q3,?_,rfl,?_⟩
     ·refine .cons ?_ .nil;have:=VR.slice (μ:=μ1.up (H++T1).length ⟨b,off,arr.size,P.cellsOf e⟩) (H++T1).length 0 len len cap ⟨b,off,arr.size,P.cellsOf e⟩ Mu.aO (Nat.le_refl _) Dw (by simpa using HI)
      simpa using this
     ·simp only[In,ht];refine .inr ⟨(H++T1).length,es,by rw[n1],by omega,λ_=>?_,λx hx=>⟨(i1 x hx).1,?_⟩⟩
      ·rw[←List.append_assoc];exact aa.kF (H:=H++T1) (b:=⟨es.flatten,e,P.cellsOf e,true⟩)
      ·rw[←List.append_assoc];exact In.mono _ _ _ (i1 x hx).2
  ·cases dH
def mc (P:Program)(H:aa)(f:Nat)(t:TypeId)(v:Value):Prop:=
 ∃cs,In P H f t cs∧match P.underlying t with
  |some (.struct _)=>v= .agg cs.toArray
  |_=>cs=[v]
def yX (P:Program)(H:aa)(f:Nat):List TypeId→List Value→Prop
 | [],vs=>vs=[]
 |t::ts,vs=>∃v r,vs=v::r∧mc P H f t v∧yX P H f ts r
theorem yY {v:Value}(h: ∀cs,v≠ .agg cs):v.cells.toList=[v]:=by
 cases v<;>first|rfl| (exact absurd rfl (h _))
theorem PE {r:Reach}{b0:Nat}{f:Nat}{t:TypeId}{v:Value}{d:DataW A}{ps:List MemPlace}(dH:tW P f t=true)(oF:Value.okWide P w r b0 t v)(hd:DataW.Trod enc P w 0 (λ_=>true) held t v d ps)(hS:cO P μ H w B)(hr:jF H): ∃μ' T a,μ.le μ'∧cO P μ' (H++T) w B∧jF (H++T)∧VR μ' a v∧mc P (H++T) f t a:=by
 obtain⟨fuel,hf⟩:=hd;obtain⟨μ',T,Jk,h1,h2,h3,h4,h5,h6⟩:=aa0 f _ _ _ _ μ H dH hf hS hr;have single:(∀fs,P.underlying t≠some (.struct fs))→(∀cs,v≠ .agg cs)→∃μ' T a,μ.le μ'∧cO P μ' (H++T) w B∧jF (H++T)∧VR μ' a v∧mc P (H++T) f t a:=by
  intro hns hna;rw[yY hna] at h4;obtain⟨a,rfl⟩: ∃a,Jk=[a]:=by
   have:=h4.1
   match Jk,this with
   | [a],_=>exact⟨a,rfl⟩
  obtain⟨b,y,e,h7,h8⟩:=h4.fG;cases e;refine⟨μ',T,a,h1,h2,h3,h7,[a],h6,?_⟩;split
  ·rename_i fs e;exact absurd e (hns _)
  ·rfl
 cases f with
 |zero=>simp[tW] at dH
 |succ f=>
  simp only[tW] at dH;split at dH
  ·rename_i ht;obtain⟨b,rfl⟩:=okWide_bool ht oF;exact single (by simp[ht]) (by simp)
  ·rename_i k ht;obtain⟨n,rfl⟩:=okWide_int ht oF;exact single (by simp[ht]) (by simp)
  ·rename_i ht;obtain⟨s,rfl⟩:=okWide_string ht oF;exact single (by simp[ht]) (by simp)
  ·rename_i fs ht;unfold Value.okWide at oF;rw[ht] at oF;obtain⟨cs,rfl,_⟩:=oF;refine⟨μ',T,.agg Jk.toArray,h1,h2,h3,cU.agg (by simpa[Value.cells] using h4),Jk,h6,by rw[ht]⟩
  ·rename_i e ht;obtain⟨a,len,cap,rfl⟩:=okWide_slice ht oF;exact single (by simp[ht]) (by simp)
  ·cases dH
theorem Mr {r:Reach}{b0:Nat}{f:Nat}: ∀(ts:List TypeId) (vs:List Value) (ds:List (DataW A)) (ps:List MemPlace) (μ:Mu) (H:aa),(ts.all (tW P f))=true→
  (∀(j:Nat) t v,ts[j]? =some t→vs[j]? =some v→Value.okWide P w r b0 t v)→DataW.TrodAll enc P w 0 (λ_=>true) held ts vs ds ps→cO P μ H w B→jF H→
  ∃μ' T aq',μ.le μ'∧cO P μ' (H++T) w B∧jF (H++T)∧cU μ' aq' vs∧yX P (H++T) f ts aq':=by
 intro ts;induction ts with
 |nil=>
  intro vs ds ps μ H _ _ h hS hr;obtain⟨rfl,_,_⟩:=trodAll_nil h;exact⟨μ,[],[],μ.le_refl,by simpa using hS,by simpa using hr,.nil,rfl⟩
 |cons t ts ih=>
  intro vs ds ps μ H dH oF h hS hr;simp only[List.all_cons,Bool.and_eq_true] at dH;obtain⟨v,iY,d,ds',p,q,rfl,rfl,rfl,h1,h2⟩:=trodAll_cons h;obtain⟨μ1,T1,a,l1,s1,r1,v1,i1⟩:=PE dH.1 (oF 0 t v rfl rfl) h1 hS hr;obtain⟨μ2,T2,aq',l2,s2,r2,v2,i2⟩:=ih iY ds' q μ1 (H++T1) dH.2 (λj t' v' e1 e2=>oF (j+1) t' v' (by simpa using e1) (by simpa using e2)) h2 s1 r1
  refine⟨μ2,T1++T2,a::aq',Mu.le_trans l1 l2,by rw[←List.append_assoc];exact s2,by rw[←List.append_assoc];exact r2,.cons (v1.mono l2) v2,a,aq',rfl,?_,?_⟩
  ·obtain⟨cs,k1,k2⟩:=i1;exact⟨cs,by rw[←List.append_assoc];exact In.mono _ _ _ k1,k2⟩
  ·rw[←List.append_assoc];exact i2
theorem Ms (hl:laidOutB P=true): ∀(ts:List TypeId) (vs:List Value) (ds:List (DataW A)) (ps:List MemPlace) {W':World},(ts.all λt=>P.readableRec t&&decide (t<P.types.size))=true→
  DataW.TrodAll enc P w 0 (λ_=>true) true ts vs ds ps→Below w.heap.size w W'→(∀x∈ps,x.block<w.heap.size)→
  DataW.TrodAll enc P W' 0 (λb=>decide (b<w.heap.size)) true ts vs ds ps:=by
 intro ts;induction ts with
 |nil=>
  intro vs ds ps W' _ h _ _;obtain⟨rfl,rfl,rfl⟩:=trodAll_nil h;exact trodAll_mk0
 |cons t ts ih=>
  intro vs ds ps W' dH h hb gF;simp only[List.all_cons,Bool.and_eq_true,decide_eq_true_eq] at dH;obtain⟨v,iY,d,ds',p,q,rfl,rfl,rfl,h1,h2⟩:=trodAll_cons h;exact trodAll_cons_mk (Below.trod hl dH.1.1 dH.1.2 h1 hb λx hx=>gF x (List.mem_append_left _ hx)) (ih iY ds' q dH.2 h2 hb λx hx=>gF x (List.mem_append_right _ hx))
def Vn (P:Program)(f:FuncId)(ts:List TypeId):Prop:=
 ∀W:World,∀H args μ,jF H→yX P H 9 ts args→cO P μ H W W.heap.size→∀vs,cU μ args vs→
  Calls P f vs.toArray W λe W'=>e= .returned (.bool true)∧Below W.heap.size W W'
theorem Vn.walk {f:FuncId}{ts:List TypeId}(h:Vn P f ts)(dH:(ts.all (tW P 9))=true){r:Reach}{b0:Nat}{vs:List Value}{ds:List (DataW A)}{ps:List MemPlace}(oF: ∀(j:Nat) t v,ts[j]? =some t→vs[j]? =some v→Value.okWide P w r b0 t v)(hA:DataW.TrodAll enc P w 0 (λ_=>true) held ts vs ds ps):
  Calls P f vs.toArray w λe W'=>e= .returned (.bool true)∧Below w.heap.size w W':=by
 obtain⟨μ,T,aq',_,s,r,v,i⟩:=Mr ts vs ds ps (λ_=>none) [] dH oF hA (cO.empty w) (λi b h=>by simp[aa.get] at h)
 exact h w ([]++T) aq' μ r i s vs v
theorem Vn.PG {f:FuncId}{ts:List TypeId}(ks:List FuncId)(m:Nat)(hp:mW P (oo P)=true)(HQ:mW P (ks++oo P)=true)(hk:(ks.all λk=>(gC P (oo P) Nn m k [] []).any λr=>oj r.1 (.bool true))=true)(h: ∀H args,jF H→yX P H 9 ts args→∃n H',gC P (ks++oo P) (qJ ks) n f args H=some (.bool true,H')):Vn P f ts:=by
 intro W H args μ hr hi hS vs hv;obtain⟨n,H',h⟩:=h H args hr hi;exact yW hp HQ hk h hS hv
end Go.Proofs.YtgfgglponbmgmaaGreatA.Am
end
