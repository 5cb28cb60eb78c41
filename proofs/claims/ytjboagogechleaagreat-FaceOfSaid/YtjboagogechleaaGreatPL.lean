import Derived.Test.YtjboagogechleaaGreatPK
import Derived.Test.YtjboagogechleaaGreatPG
import Derived.Test.YtjboagogechleaaGreatTI
set_option linter.unusedVariables false
section
namespace Go.Ab.M
open Go.Proofs
set_option linter.unusedSimpArgs false
instance (p q:Edge):Decidable (nY p q):=by unfold nY;infer_instance
theorem uU {g:Graph} (h:g.shape.sized=true) (v:Int):Ei g v=some (g.shape.EY v):=by
 have hs:=qW.1 h
 simp only[Graph.shape] at hs
 simp (disch:=omega) only[Ei,zg,aC,zt,Shape.EY,Graph.shape,ge_iff_le]
 split
 ·rename_i h1;simp[h1]
 ·rename_i h1;simp[h1]
theorem UY {g:Graph} (hl:g.Gone.length<=1000000) (v:Int):vO g v=some (decide (v∈g.Gone)):=by
 have e:zM g v 0=some (if (List.range g.Gone.length).all (fun i=>!(nth g.Gone i==v))=true then .inr () else .inl ()):=by
  unfold zM
  exact qm (round:=fun σ=>iL g v σ) (fun i=>!(nth g.Gone i==v)) g.Gone.length (.inr ()) (.inl ())
   (fun i hi hp=>by simp only[Bool.not_eq_true'] at hp;simp (disch:=omega) only[iL,hp,zg,bT,aC,zt,zs])
   (fun i hi hp=>by simp only[Bool.not_eq_false'] at hp;simp (disch:=omega) only[iL,hp,zg,bT,aC,zt,zs])
   (by simp only[iL,Int.lt_irrefl,decide_false,zs]) (by simp only[FU];omega)
 have hm:((List.range g.Gone.length).all (fun i=>!(nth g.Gone i==v))=true)↔v∉g.Gone:=by
  simp only[List.all_eq_true,List.mem_range,Bool.not_eq_true',beq_eq_false_iff_ne]
  constructor
  ·intro h hv
   obtain ⟨i,hi,e⟩:=uh hv
   exact h i hi e
  ·intro h i hi e
   exact h (e▸aU hi)
 simp only[vO,e,zj]
 by_cases q:v∈g.Gone
 ·rw[zp (fun h=>hm.1 h q),zz q];rfl
 ·rw[zr (hm.2 q),zw q];rfl
def Graph.Dc (g:Graph) (w:Edge):Bool:=decide (0<=w.From)&&decide (w.From<g.Ins+g.aG)&&decide (g.Ins<=w.To)&&decide (w.To<g.Ins+g.aG+g.aH)&&decide (w.From<w.To)&&isR w.W&&!decide (w.From∈g.Gone)&&!decide (w.To∈g.Gone)
theorem FN {g:Graph} {n:Nat} (h:g.shape.sized=true) (hg:g.Gone.length<=1000000) {w:Edge} (hw:okL n w.W) (hn0:0<n) (hn:n<=3000):AL g w=some (g.Dc w):=by
 have hs:=qW.1 h
 simp only[Graph.shape] at hs
 have hR:=Sz hw hn0 hn
 unfold Graph.Dc
 simp (disch:=omega) only[AL,zg,aC,zt,UY hg,hR,zj]
 by_cases q1:w.From<0
 ·rw[zr q1,zw (show ¬0<=w.From by omega)];rfl
 by_cases q2:w.From>=g.Ins+g.aG
 ·rw[zp q1,zr q2,zw (show ¬w.From<g.Ins+g.aG by omega),Bool.and_false];rfl
 by_cases q3:w.To<g.Ins
 ·rw[zp q1,zp q2,zr q3,zw (show ¬g.Ins<=w.To by omega),Bool.and_false];rfl
 by_cases q4:w.To>=g.Ins+g.aG+g.aH
 ·rw[zp q1,zp q2,zp q3,zr q4,zw (show ¬w.To<g.Ins+g.aG+g.aH by omega),Bool.and_false];rfl
 by_cases q5:w.To<=w.From
 ·rw[zp q1,zp q2,zp q3,zp q4,zr q5,zw (show ¬w.From<w.To by omega),Bool.and_false];rfl
 rw[zp q1,zp q2,zp q3,zp q4,zp q5,zz (show 0<=w.From by omega),zz (show w.From<g.Ins+g.aG by omega),zz (show g.Ins<=w.To by omega),zz (show w.To<g.Ins+g.aG+g.aH by omega),zz (show w.From<w.To by omega)]
 cases isR w.W<;>cases decide (w.From∈g.Gone)<;>cases decide (w.To∈g.Gone)<;>rfl
theorem Vo {g:Graph} {i:Nat} (hi:i<g.ah.length):g.fits i=(g.Dc (nth g.ah i)&&(decide (i=0)||decide (nY (nth g.ah (i-1)) (nth g.ah i)))):=by
 have hf:g.fits i=(decide (g.jA i)&&isR (nth g.ah i).W&&!decide ((nth g.ah i).From∈g.Gone)&&!decide ((nth g.ah i).To∈g.Gone)):=by
  have:g.shape.fits i=decide (g.jA i):=by rw[Bool.eq_iff_iff,decide_eq_true_eq];exact Aa hi
  simp only[Graph.fits,this]
 rw[hf,Bool.eq_iff_iff]
 simp only[Graph.Dc,zR,Bool.or_eq_true,decide_eq_true_eq]
 unfold Graph.jA nY
 constructor
 ·rintro ⟨⟨⟨⟨a,b,c,d,e,f⟩,r⟩,s⟩,t⟩;exact ⟨⟨⟨⟨⟨⟨⟨⟨a,b⟩,c⟩,d⟩,e⟩,r⟩,s⟩,t⟩,f⟩
 ·rintro ⟨⟨⟨⟨⟨⟨⟨⟨a,b⟩,c⟩,d⟩,e⟩,r⟩,s⟩,t⟩,f⟩;exact ⟨⟨⟨⟨a,b,c,d,e,f⟩,r⟩,s⟩,t⟩
theorem adX {g:Graph} (h:g.shape.sized=true) (hl:g.Gone.length<=100000):yt g 0=some (if g.Aw=true then .inr () else .inl ()):=by
 unfold yt Graph.Aw
 refine qm (round:=fun σ=>eU g σ) g.nH g.Gone.length (.inr ()) (.inl ()) (fun i hi hp=>?_) (fun i hi hp=>?_) (by simp only[eU,Int.lt_irrefl,decide_false,zs]) (by simp only[FU];omega)
 ·simp only[Graph.nH,zR,Bool.or_eq_true,decide_eq_true_eq] at hp
  have hm:g.shape.EY (nth g.Gone i)=true:=by show (decide _&&decide _)=true;rw[zR,decide_eq_true_eq,decide_eq_true_eq];exact hp.1
  have e1:(((i:Nat):Int)-1).toNat=i-1:=by omega
  by_cases h0:i=0
  ·have n6:¬((i:Nat):Int)>0:=by omega
   simp (disch:=omega) only[eU,uU h,hm,Bool.not_true,zs,zg,bT,zp n6,aC,zt,zj]
  ·have n6:((i:Nat):Int)>0:=by omega
   have n7:¬(nth g.Gone (i-1)>=nth g.Gone i):=by omega
   simp (disch:=omega) only[eU,uU h,hm,e1,Bool.not_true,zs,zg,bT,zr n6,zp n7,aC,zt,zj]
 ·have e1:(((i:Nat):Int)-1).toNat=i-1:=by omega
  have hmm:g.shape.EY (nth g.Gone i)=(decide (g.Ins<=nth g.Gone i)&&decide (nth g.Gone i<g.Ins+g.aG)):=rfl
  cases hm:g.shape.EY (nth g.Gone i) with
  | false=>simp (disch:=omega) only[eU,uU h,hm,Bool.not_false,zg,bT,zt,zj]
  | true=>
   unfold Graph.nH at hp
   rw[<-hmm,hm,Bool.true_and,Bool.or_eq_false_iff,decide_eq_false_iff_not,decide_eq_false_iff_not] at hp
   have n6:((i:Nat):Int)>0:=by omega
   have n7:nth g.Gone (i-1)>=nth g.Gone i:=by omega
   simp (disch:=omega) only[eU,uU h,hm,e1,Bool.not_true,zs,zg,bT,zr n6,zr n7,aC,zt,zj]
theorem adV {g:Graph} {n:Nat} (h:g.shape.sized=true) (hg:g.Ok n) (hn0:0<n) (hn:n<=3000):tY g 0=some (if (List.range g.ah.length).all g.fits=true then .inr () else .inl ()):=by
 have hl:=hg.e
 unfold tY
 refine qm (round:=fun σ=>cu g σ) g.fits g.ah.length (.inr ()) (.inl ()) (fun i hi hp=>?_) (fun i hi hp=>?_) (by simp only[cu,Int.lt_irrefl,decide_false,zs]) (by simp only[FU];omega)
 ·have he:=FN h (by have:=hg.g;omega) (hg.w i hi) hn0 hn
  rw[Vo hi,zR,Bool.or_eq_true,decide_eq_true_eq,decide_eq_true_eq] at hp
  rw[hp.1] at he
  have e1:(((i:Nat):Int)-1).toNat=i-1:=by omega
  by_cases h0:i=0
  ·have n6:¬((i:Nat):Int)>0:=by omega
   simp (disch:=omega) only[cu,he,Bool.not_true,zs,zg,bT,zp n6,aC,zt,zj]
  ·have n6:((i:Nat):Int)>0:=by omega
   have hlt:=hp.2.resolve_left h0
   unfold nY at hlt
   have n7:¬((nth g.ah (i-1)).From>(nth g.ah i).From):=by omega
   by_cases q:(nth g.ah (i-1)).From=(nth g.ah i).From
   ·have q':((nth g.ah (i-1)).From==(nth g.ah i).From)=true:=by rw[beq_iff_eq];exact q
    have n8:¬((nth g.ah (i-1)).To>=(nth g.ah i).To):=by omega
    simp (disch:=omega) only[cu,he,e1,q',Bool.not_true,zs,zg,bT,zr n6,zp n7,zp n8,aC,zt,zj]
   ·have q':((nth g.ah (i-1)).From==(nth g.ah i).From)=false:=by rw[beq_eq_false_iff_ne];exact q
    simp (disch:=omega) only[cu,he,e1,q',Bool.not_true,zs,zg,bT,zr n6,zp n7,aC,zt,zj]
 ·have he:=FN h (by have:=hg.g;omega) (hg.w i hi) hn0 hn
  rw[Vo hi] at hp
  cases hf:g.Dc (nth g.ah i) with
  | false=>
   rw[hf] at he
   simp (disch:=omega) only[cu,he,Bool.not_false,zg,bT,zt,zj]
  | true=>
   rw[hf] at he
   rw[hf,Bool.true_and,Bool.or_eq_false_iff,decide_eq_false_iff_not,decide_eq_false_iff_not] at hp
   have e1:(((i:Nat):Int)-1).toNat=i-1:=by omega
   have n6:((i:Nat):Int)>0:=by omega
   have hlt:=hp.2
   unfold nY at hlt
   by_cases q0:(nth g.ah (i-1)).From>(nth g.ah i).From
   ·simp (disch:=omega) only[cu,he,e1,Bool.not_true,zs,zg,bT,zr n6,zr q0,aC,zt,zj]
   ·have q:(nth g.ah (i-1)).From=(nth g.ah i).From:=by omega
    have q':((nth g.ah (i-1)).From==(nth g.ah i).From)=true:=by rw[beq_iff_eq];exact q
    have n8:(nth g.ah (i-1)).To>=(nth g.ah i).To:=by omega
    simp (disch:=omega) only[cu,he,e1,q',Bool.not_true,zs,zg,bT,zr n6,zp q0,zr n8,aC,zt,zj]
theorem Qa {g:Graph} {n:Nat} (hg:g.Ok n) (hn0:0<n) (hn:n<=3000):xH g=some g.right:=by
 have hz:g.shape.sized=(decide (1<=g.Ins)&&decide (g.Ins<=40)&&decide (1<=g.aH)&&decide (g.aH<=40)&&decide (0<=g.aG)&&decide (g.aG<=400)):=rfl
 have hno:∀{p:Prop},g.shape.sized=false->g.right=false:=fun h=>by unfold Graph.right;rw[h];rfl
 unfold xH
 by_cases q1:g.Ins<1
 ·rw[zz q1,zt,hno (p:=True) (by rw[hz,zw (show ¬1<=g.Ins by omega)];rfl)]
 by_cases q2:g.Ins>40
 ·rw[zw q1,zs,zz q2,zt,hno (p:=True) (by rw[hz,zw (show ¬g.Ins<=40 by omega),Bool.and_false];rfl)]
 by_cases q3:g.aH<1
 ·rw[zw q1,zs,zw q2,zs,zz q3,zt,hno (p:=True) (by rw[hz,zw (show ¬1<=g.aH by omega),Bool.and_false];rfl)]
 by_cases q4:g.aH>40
 ·rw[zw q1,zs,zw q2,zs,zw q3,zs,zz q4,zt,hno (p:=True) (by rw[hz,zw (show ¬g.aH<=40 by omega),Bool.and_false];rfl)]
 by_cases q5:g.aG<0
 ·rw[zw q1,zs,zw q2,zs,zw q3,zs,zw q4,zs,zz q5,zt,hno (p:=True) (by rw[hz,zw (show ¬0<=g.aG by omega),Bool.and_false];rfl)]
 by_cases q6:g.aG>400
 ·rw[zw q1,zs,zw q2,zs,zw q3,zs,zw q4,zs,zw q5,zs,zz q6,zt,hno (p:=True) (by rw[hz,zw (show ¬g.aG<=400 by omega),Bool.and_false])]
 have hs:g.shape.sized=true:=qW.2 (by simp only[Graph.shape];omega)
 rw[zw q1,zs,zw q2,zs,zw q3,zs,zw q4,zs,zw q5,zs,zw q6,zs]
 simp only[adX hs hg.g,adV hs hg hn0 hn,zj,Graph.right,hs,Bool.true_and]
 cases hq:g.Aw with
 | false=>rfl
 | true=>
  cases hp:(List.range g.ah.length).all g.fits with
  | false=>rfl
  | true=>rfl
theorem YW {n:Nat} {l:List PE} (hl:Lab n l) (φ:Nat->_root_.Rat) (hφ:∀p e r,l=p++e::r->SZ (DD r) (MM r) (φ e.t)):∀{m:List PE},(∀e,e∈m->e∈l)->SZ (DD l) (m.length*MM l) (Sl (m.map fun e=>e.w*φ e.t))
 | [],_=>.zero _ _
 | e::m,h=>by
  have ih:=YW hl φ hφ (m:=m) fun x hx=>h x (by simp[hx])
  obtain ⟨p,r,rfl⟩:=List.append_of_mem (h e (by simp))
  have h1:SZ (e.w.den*DD r) (e.w.num.natAbs*MM r) (e.w*φ e.t):=(SZ.self e.w).mul e.w.den_nz (G9 r) (hφ p e r rfl)
  have h2:=h1.up (G9 p)
  rw[show e.w.den*DD r*DD p=DD (p++e::r) by rw[ac8];show _=DD p*(e.w.den*DD r);rw[Nat.mul_comm]] at h2
  have h3:e.w.num.natAbs*MM r*DD p<=MM (p++e::r):=by
   rw[acF,Nat.mul_comm]
   exact Nat.mul_le_mul (X5 p) (Nat.mul_le_mul_right _ (Nat.le_add_left _ _))
  rw[List.map_cons,EG,List.length_cons,Nat.succ_mul,Nat.add_comm]
  exact (h2.mono h3).add (G9 _) ih
theorem SZ.word {n:Nat} {l:List PE} (hl:Lab n l) {k:Nat} (hk:k<=1000) {q:_root_.Rat} (h:SZ (DD l) (k*MM l) q):szQ ((n+1)*l.length+1) q:=by
 have hM:=ac5 hl
 have hD:=X5 l
 have h3:(4294967296:Nat)^((n+1)*l.length+1)=4294967296^((n+1)*l.length)*4294967296:=Nat.pow_succ ..
 have h4:0<(4294967296:Nat)^((n+1)*l.length):=Nat.pow_pos (by decide)
 have h5:k*MM l<=1000*4294967296^((n+1)*l.length):=Nat.mul_le_mul hk hM
 refine h.sz ?_ ?_ (by omega)
 ·rw[h3]
  generalize (4294967296:Nat)^((n+1)*l.length)=W at *
  omega
 ·rw[h3]
  generalize (4294967296:Nat)^((n+1)*l.length)=W at *
  omega
theorem KL {j:Jac} (hl:j.All.length<=1000000) (hw:∀x,x∈j.All->x.Num.length<=900000000/\x.Den.length<=900000000):oD j j=some true:=by
 simp only[oD,BEq.rfl,zt,adp hl hw,zj]
theorem aam {n:Nat} {q:_root_.Rat} (h:szQ n q) (hn:n<=900000000):(ofR q).Num.length<=900000000/\(ofR q).Den.length<=900000000:=⟨Nat.le_trans h.num hn,Nat.le_trans h.den hn⟩
theorem Zn {g:Graph} {I M O n:Nat} (h:RGr g I M O) (hg:g.Ok n) (hn0:0<n) (hK:(n+1)*g.ah.length+1<=100000):oD ⟨(O:Int),(I:Int),(List.range (O*I)).map (entry I M g.E)⟩ ⟨(O:Int),(I:Int),(List.range (O*I)).map (entry I M g.E)⟩=some true:=by
 have hOI:O*I<=1600:=Nat.mul_le_mul h.o2 h.i2
 refine KL (by show ((List.range (O*I)).map (entry I M g.E)).length<=_;rw[qy];omega) fun x hx=>?_
 have hx:x∈(List.range (O*I)).map (entry I M g.E):=hx
 obtain ⟨k,hk,rfl⟩:=List.mem_map.1 hx
 have:=afo (h.lab hg hn0) (I+M+k/I) (k%I)
 rw[Q8] at this
 exact aam this (by omega)
theorem ahy {n:Nat} {l:List PE} (hl:Lab n l) (c to:Nat) (ahI:l.length<=1000):szQ ((n+1)*l.length+1) (dq l c to):=by
 have:=(YW hl (fun _=>1) (fun p e r hpr=>by
  have:=SZ.one.up (G9 r)
  rw[Nat.one_mul] at this
  exact this.mono (X5 r)) (m:=l.filter (onE c to)) fun e he=>(List.mem_filter.1 he).1).word hl (Nat.le_trans (List.length_filter_le _ _) ahI)
 have e:(l.filter (onE c to)).map (fun e=>e.w*(1:_root_.Rat))=(l.filter (onE c to)).map (·.w):=List.map_congr_left fun e _=>by grind
 rw[e] at this
 exact this
theorem Yt {g:Graph} {I M O n:Nat} (h:RGr g I M O) (hg:g.Ok n) (hn0:0<n) (hl:g.ah.length<=1000) (hK:(n+1)*g.ah.length+1<=100000):oD ⟨(O:Int),(I:Int),(List.range (O*I)).map (uH I M g.E)⟩ ⟨(O:Int),(I:Int),(List.range (O*I)).map (uH I M g.E)⟩=some true:=by
 have hOI:O*I<=1600:=Nat.mul_le_mul h.o2 h.i2
 refine KL (by show ((List.range (O*I)).map (uH I M g.E)).length<=_;rw[qy];omega) fun x hx=>?_
 have hx:x∈(List.range (O*I)).map (uH I M g.E):=hx
 obtain ⟨k,hk,rfl⟩:=List.mem_map.1 hx
 have:=ahy (h.lab hg hn0) (k%I) (I+M+k/I) (by rw[Q8];exact hl)
 rw[Q8] at this
 exact aam this (by omega)
def Zl (g:Graph):Prop:=g.Ins<=4/\g.aH<=4/\g.aG<=7/\g.ah.length<=40/\g.Gone.length<=10/\∀w,w∈g.ah->w.W.Num.length<=2/\w.W.Den.length<=2
theorem AA (g:Graph):(Zl g->zy g=some true)/\(¬Zl g->zy g=some false):=by
 have one:∀w:Edge,yS [w.W] 2=some (decide (w.W.Num.length<=2/\w.W.Den.length<=2)):=fun w=>by
  have:=agN (l:=[w.W]) (by simp) 2
  rw[show ((2:Nat):Int)=2 from rfl] at this
  rw[this]
  congr 1
  simp
 have loop:g.ah.length<=40->Dk g 0=some (if (List.range g.ah.length).all (fun i=>decide ((nth g.ah i).W.Num.length<=2/\(nth g.ah i).W.Den.length<=2))=true then .inr () else .inl ()):=fun h40=>by
  unfold Dk
  refine qm (round:=fun σ=>jO g σ) (fun i=>decide ((nth g.ah i).W.Num.length<=2/\(nth g.ah i).W.Den.length<=2)) g.ah.length (.inr ()) (.inl ()) (fun i hi hp=>?_) (fun i hi hp=>?_) ?_ (by simp only[FU];omega)
  ·simp (disch:=omega) only[jO,one,hp,Bool.not_true,zs,zj,zg,bT,aC,zt]
  ·simp (disch:=omega) only[jO,one,hp,Bool.not_false,zj,zg,bT,zt]
  ·simp only[jO,Int.lt_irrefl,decide_false,zs]
 have al:((List.range g.ah.length).all (fun i=>decide ((nth g.ah i).W.Num.length<=2/\(nth g.ah i).W.Den.length<=2))=true)↔∀w,w∈g.ah->w.W.Num.length<=2/\w.W.Den.length<=2:=by
  rw[List.all_eq_true]
  constructor
  ·intro h w hw
   obtain ⟨i,hi,rfl⟩:=uh hw
   exact of_decide_eq_true (h i (by simpa using hi))
  ·intro h i hi
   exact zz (h _ (aU (by simpa using hi)))
 unfold Zl zy
 constructor
 ·rintro ⟨a1,a2,a3,a4,a5,a6⟩
  rw[zw (show ¬g.Ins>4 by omega),zs,zw (show ¬g.aH>4 by omega),zs,zw (show ¬g.aG>7 by omega),zs,zw (show ¬((g.ah.length:Nat):Int)>40 by omega),zs,zw (show ¬((g.Gone.length:Nat):Int)>10 by omega),zs,loop a4,zr (al.2 a6)]
  rfl
 ·intro hn
  by_cases q1:g.Ins>4
  ·rw[zz q1,zt]
  by_cases q2:g.aH>4
  ·rw[zw q1,zs,zz q2,zt]
  by_cases q3:g.aG>7
  ·rw[zw q1,zs,zw q2,zs,zz q3,zt]
  by_cases q4:((g.ah.length:Nat):Int)>40
  ·rw[zw q1,zs,zw q2,zs,zw q3,zs,zz q4,zt]
  by_cases q5:((g.Gone.length:Nat):Int)>10
  ·rw[zw q1,zs,zw q2,zs,zw q3,zs,zw q4,zs,zz q5,zt]
  rw[zw q1,zs,zw q2,zs,zw q3,zs,zw q4,zs,zw q5,zs,loop (by omega),zp fun h=>hn ⟨by omega,by omega,by omega,by omega,by omega,al.1 h⟩]
  rfl
end Go.Ab.M
namespace Go.Ab.M
theorem Ok.filter {g:Graph} {n:Nat} (hg:g.Ok n) (p:Edge->Bool):(Graph.mk g.Ins g.aG g.aH (g.ah.filter p) g.Gone).Ok n:=by
 refine ⟨fun i hi=>?_,Nat.le_trans (List.length_filter_le _ _) hg.e,hg.g⟩
 have hm:=aU hi
 obtain ⟨j,hj,e⟩:=uh (List.mem_filter.1 hm).1
 show okL n (nth (g.ah.filter p) i).W
 rw[<-e]
 exact hg.w j hj
end Go.Ab.M
end
