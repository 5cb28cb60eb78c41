import Derived.Test.YtcelliafjmmldaaGreatTD
namespace Go.Ab.M
open Go.Proofs
set_option linter.unusedVariables false
set_option maxRecDepth 100000
structure Jd where
 Rat:Rat
 deriving DecidableEq,Inhabited
abbrev Jd.D (x:Jd):List D:=Rat.D x.Rat
structure Du where
 halves:Jd
 deriving DecidableEq,Inhabited
abbrev Du.D (x:Du):List D:=Jd.D x.halves
def yT (a:List Int) (b:List Int):Option (List Int×List Int×Bool):=
 (kH b).bind fun x0=>
 bif x0==0 then
 some ([],[],false)
 else
 (pU a b).bind fun x1=>
 (uU a x1).bind fun x2=>
 (uU b x1).bind fun x3=>
 some (x2.1,x3.1,true)
theorem Ri (a:List Int) (b:List Int):∀r,yT a b=some r→aj Tryz.prog 211 0 [SL (cI .u32) a,SL (cI .u32) b] [] (.tup [SL (cI .u32) r.1,SL (cI .u32) r.2.1,B r.2.2]) []:=
 ak (enc:=fun r=>.tup [SL (cI .u32) r.1,SL (cI .u32) r.2.1,B r.2.2]) (aP:=fun r=>[]) 10 (.call [] [] (uV b) .no fun x0=>.br 100000010 (.ps 1000003 [.n 4,.n 5] (.ret ([],[],false))) (.call [] [] (MO a b) .no fun x1=>.call [] [] (IB a x1) .no fun x2=>.call [] [] (IB b x1) .no fun x3=>.ret (x2.1,x3.1,true))) Tryz.func211 (by kernel_rfl) (by kernel_rfl) (by kernel_rfl)
def Px (a:Int) (b:Int) (c:Int):Option (Int×Int):=
 (l9 [a,b,c]).bind fun x0=>
 (wR x0).bind fun x1=>
 some (x1.2,x1.1)
theorem aaG (a:Int) (b:Int) (c:Int):∀r,Px a b c=some r→aj Tryz.prog 261 0 [NI .u32 a,NI .u32 b,NI .u32 c] [] (.tup [NI .u32 r.1,NI .u32 r.2]) []:=
 ak (enc:=fun r=>.tup [NI .u32 r.1,NI .u32 r.2]) (aP:=fun r=>[]) 10 (.call [] [] (BK [a,b,c]) (.yes fun _=>⟨rfl,trivial⟩) fun x0=>.call [] [] (Gn x0) .no fun x1=>.ret (x1.2,x1.1)) Tryz.func261 (by kernel_rfl) (by kernel_rfl) (by kernel_rfl)
def Jc (a:List Int) (b:List Int) (i:Nat) (out:List Int):St:=⟨43,0,[(0,SL (cI .u32) a),(1,SL (cI .u32) b),(5,I (mxI ((a.length:Nat):Int) ((b.length:Nat):Int))),(6,.msl 10 0 none (some (((mxI ((a.length:Nat):Int) ((b.length:Nat):Int))+1).toNat))),(16,I (mxI ((a.length:Nat):Int) ((b.length:Nat):Int))),(17,I ((i:Nat):Int))],[(10,ROW 1 (cI .u32) out 0)]⟩
def Ie (a:List Int) (b:List Int) (out:List Int):St:=⟨43,0,[(6,.msl 10 0 none (some (((mxI ((a.length:Nat):Int) ((b.length:Nat):Int))+1).toNat)))],[(10,ROW 1 (cI .u32) out 0)]⟩
def vG (a:List Int) (b:List Int) (i:Nat) (out:List Int):Option ((Nat×List Int)⊕(List Int)):=
 bif decide (((i:Nat):Int)<(mxI ((a.length:Nat):Int) ((b.length:Nat):Int))) then
 (Oa a ((i:Nat):Int)).bind fun x0=>
 (Oa b ((i:Nat):Int)).bind fun x1=>
 bif decide (0≤mxI ((a.length:Nat):Int) ((b.length:Nat):Int)) then
 bif decide ((mxI ((a.length:Nat):Int) ((b.length:Nat):Int)).toNat<out.length) then
 bif decide ((mxI ((a.length:Nat):Int) ((b.length:Nat):Int)).toNat<out.length) then
 (Px x0 x1 (nth out ((mxI ((a.length:Nat):Int) ((b.length:Nat):Int)).toNat))).bind fun x2=>
 bif decide (i<out.length) then
 bif decide (i<out.length) then
 bif decide (0≤mxI ((a.length:Nat):Int) ((b.length:Nat):Int)) then
 bif decide ((mxI ((a.length:Nat):Int) ((b.length:Nat):Int)).toNat<(out.set i x2.1).length) then
 bif decide ((mxI ((a.length:Nat):Int) ((b.length:Nat):Int)).toNat<(out.set i x2.1).length) then
 bif inK .i64 (((i:Nat):Int)+1) then
 some (.inl (i+1,(out.set i x2.1).set ((mxI ((a.length:Nat):Int) ((b.length:Nat):Int)).toNat) x2.2))
 else none
 else none
 else none
 else none
 else none
 else none
 else none
 else none
 else none
 else
 some (.inr out)
theorem ZG (a:List Int) (b:List Int):∀σ:Nat×List Int,aN Tryz.prog (nav [1,1,1,0,1,0,0] (ah Tryz.f210)) (fun (σ:Nat×List Int)=>Jc a b σ.1 σ.2) (fun (_:List Int)=>(.exit 0)) (fun (y:List Int)=>Ie a b y) σ (vG a b σ.1 σ.2)
 | (i,out)=>aF 1010 (.br 100000018 (.call [] [] (Qp a ((i:Nat):Int)) .no fun x0=>.call [] [] (Qp b ((i:Nat):Int)) .no fun x1=>.op 60024 (.el (cI .u32) out .dn) (.op 60026 (.ld (cI .u32) out) (.call [] [] (aaG x0 x1 (nth out ((mxI ((a.length:Nat):Int) ((b.length:Nat):Int)).toNat))) .no fun x2=>.op 60036 (.el (cI .u32) out (.up i)) (.op 60038 (.st (cI .u32) out x2.1) (.op 60040 (.el (cI .u32) (out.set i x2.1) .dn) (.op 60042 (.st (cI .u32) (out.set i x2.1) x2.2) (.ps 1000003 [.k [0,1,5,6,16,17] [10]] (.ret (.inl (i+1,(out.set i x2.1).set ((mxI ((a.length:Nat):Int) ((b.length:Nat):Int)).toNat) x2.2)))))))))) (.ps 1000003 [.k [6] [10]] (.ret (.inr out)))) (by kernel_rfl)
def LX (a:List Int) (b:List Int) (i:Nat) (out:List Int):Option (List Int):=aK (fun (σ:Nat×List Int)=>vG a b σ.1 σ.2) FU (i,out)
theorem YJ (a:List Int) (b:List Int) (i:Nat) (out:List Int):∀y:List Int,LX a b i out=some y→Runs Tryz.prog (.loop (nav [1,1,1,0,1,0,0] (ah Tryz.f210))) (Jc a b i out) ((.exit 0)) ((fun (y:List Int)=>Ie a b y) y):=
 aS (head:=fun (σ:Nat×List Int)=>Jc a b σ.1 σ.2) (eo:=fun (_:List Int)=>(.exit 0)) (so:=fun (y:List Int)=>Ie a b y) (ZG a b) (fun _ h=>by cases h) FU (i,out)
def Qi (a:List Int) (b:List Int):Option (List Int):=
 bif inK .i64 ((mxI ((a.length:Nat):Int) ((b.length:Nat):Int))+1) then
 bif decide (0≤(mxI ((a.length:Nat):Int) ((b.length:Nat):Int))+1) then
 bif decide (((mxI ((a.length:Nat):Int) ((b.length:Nat):Int))+1).toNat≤2147483648) then
 (LX a b 0 (List.replicate (((mxI ((a.length:Nat):Int) ((b.length:Nat):Int))+1).toNat) 0)).bind fun x0=>
 (ig x0).bind fun x1=>
 some x1
 else none
 else none
 else none
theorem Xb (a:List Int) (b:List Int):∀r,Qi a b=some r→aj Tryz.prog 210 0 [SL (cI .u32) a,SL (cI .u32) b] [] (SL (cI .u32) r) []:=
 ak (enc:=fun r=>SL (cI .u32) r) (aP:=fun r=>[]) 10 (.op 10002 (.ln (cI .u32) a) (.op 10006 (.ln (cI .u32) b) (.op 20004 (.mk (cI .u32) 0 .dn) (.ps 1000001 [.k [0,1,5,6,16,17] [10]] (.lp1 0 (YJ a b 0 (List.replicate (((mxI ((a.length:Nat):Int) ((b.length:Nat):Int))+1).toNat) 0)) fun x0=>.call [] [] (gU x0) .no fun x1=>.ret x1))))) Tryz.func210 (by kernel_rfl) (by kernel_rfl) (by kernel_rfl)
def jg (neg:Bool) (mag:List Int):Option Whole:=
 (ig mag).bind fun x0=>
 bif neg then
 some (Whole.mk (decide (((x0.length:Nat):Int)>0)) x0)
 else
 some (Whole.mk false x0)
theorem kC (neg:Bool) (mag:List Int):∀r,jg neg mag=some r→aj Tryz.prog 209 0 [B neg,SL (cI .u32) mag] [] (AG Whole.D r) []:=
 ak (enc:=fun r=>AG Whole.D r) (aP:=fun r=>[]) 10 (.call [] [] (gU mag) .no fun x0=>.br 20004 (.op 20006 (.ln (cI .u32) x0) (.ret (Whole.mk (decide (((x0.length:Nat):Int)>0)) x0))) (.ret (Whole.mk false x0))) Tryz.func209 (by kernel_rfl) (by kernel_rfl) (by kernel_rfl)
def Kw (n:Int):Option Whole:=
 bif decide (n<0) then
 bif inK .i64 (n+1) then
 bif inK .i64 (0-(n+1)) then
 (tH (IntKind.wrap .u64 (0-(n+1)))).bind fun x0=>
 (tH 1).bind fun x1=>
 (Qi x0 x1).bind fun x2=>
 (jg true x2).bind fun x3=>
 some x3
 else none
 else none
 else
 (tH (IntKind.wrap .u64 n)).bind fun x0=>
 (jg false x0).bind fun x1=>
 some x1
theorem aaB (n:Int):∀r,Kw n=some r→aj Tryz.prog 149 0 [I n] [] (AG Whole.D r) []:=
 ak (enc:=fun r=>AG Whole.D r) (aP:=fun r=>[]) 10 (.br 100000004 (.op 20006 .wr (.call [] [] (lW (IntKind.wrap .u64 (0-(n+1)))) .no fun x0=>.call [] [] (lW 1) .no fun x1=>.call [] [] (Xb x0 x1) .no fun x2=>.call [] [] (kC true x2) .no fun x3=>.ret x3)) (.op 30002 .wr (.call [] [] (lW (IntKind.wrap .u64 n)) .no fun x0=>.call [] [] (kC false x0) .no fun x1=>.ret x1))) Tryz.func149 (by kernel_rfl) (by kernel_rfl) (by kernel_rfl)
def Jy (a:Whole) (b:Whole):Option Whole:=
 (Qi a.Mag b.Mag).bind fun x0=>
 (jg a.Neg x0).bind fun x1=>
 some x1
theorem Wy (a:Whole) (b:Whole):∀r,Jy a b=some r→aj Tryz.prog 214 0 [AG Whole.D a,AG Whole.D b] [] (AG Whole.D r) []:=
 ak (enc:=fun r=>AG Whole.D r) (aP:=fun r=>[]) 10 (.call [] [] (Xb a.Mag b.Mag) .no fun x0=>.call [] [] (kC a.Neg x0) .no fun x1=>.ret x1) Tryz.func214 (by kernel_rfl) (by kernel_rfl) (by kernel_rfl)
def Bh (a:Whole) (b:Whole):Option Whole:=
 (LM a.Mag b.Mag).bind fun x0=>
 bif x0.2 then
 (jg a.Neg x0.1).bind fun x1=>
 some x1
 else
 (LM b.Mag a.Mag).bind fun x1=>
 (jg b.Neg x1.1).bind fun x2=>
 some x2
theorem Us (a:Whole) (b:Whole):∀r,Bh a b=some r→aj Tryz.prog 213 0 [AG Whole.D a,AG Whole.D b] [] (AG Whole.D r) []:=
 ak (enc:=fun r=>AG Whole.D r) (aP:=fun r=>[]) 10 (.call [] [] (Oj a.Mag b.Mag) .no fun x0=>.br 100000017 (.call [] [] (kC a.Neg x0.1) .no fun x1=>.ret x1) (.call [] [] (Oj b.Mag a.Mag) .no fun x1=>.call [] [] (kC b.Neg x1.1) .no fun x2=>.ret x2)) Tryz.func213 (by kernel_rfl) (by kernel_rfl) (by kernel_rfl)
def CU (a:Whole) (b:Whole):Option Whole:=
 bif a.Neg==b.Neg then
 (Jy a b).bind fun x0=>
 some x0
 else
 (Bh a b).bind fun x0=>
 some x0
theorem YL (a:Whole) (b:Whole):∀r,CU a b=some r→aj Tryz.prog 153 0 [AG Whole.D a,AG Whole.D b] [] (AG Whole.D r) []:=
 ak (enc:=fun r=>AG Whole.D r) (aP:=fun r=>[]) 10 (.br 100000011 (.call [] [] (Wy a b) .no fun x0=>.ret x0) (.call [] [] (Us a b) .no fun x0=>.ret x0)) Tryz.func153 (by kernel_rfl) (by kernel_rfl) (by kernel_rfl)
def xZ (a:Whole) (b:Whole):Option Whole:=
 (nX a.Mag b.Mag).bind fun x0=>
 (jg (!(a.Neg==b.Neg)) x0).bind fun x1=>
 some x1
theorem Ce (a:Whole) (b:Whole):∀r,xZ a b=some r→aj Tryz.prog 154 0 [AG Whole.D a,AG Whole.D b] [] (AG Whole.D r) []:=
 ak (enc:=fun r=>AG Whole.D r) (aP:=fun r=>[]) 10 (.call [] [] (qE a.Mag b.Mag) .no fun x0=>.call [] [] (kC (!(a.Neg==b.Neg)) x0) .no fun x1=>.ret x1) Tryz.func154 (by kernel_rfl) (by kernel_rfl) (by kernel_rfl)
def dw (neg:Bool) (n:List Int) (d:List Int):Option Rat:=
 (yT n d).bind fun x0=>
 bif !x0.2.2 then
 (tH 1).bind fun x1=>
 some (Rat.mk false [] x1)
 else
 bif ((x0.1.length:Nat):Int)==0 then
 (tH 1).bind fun x1=>
 some (Rat.mk false [] x1)
 else
 some (Rat.mk neg x0.1 x0.2.1)
theorem bP (neg:Bool) (n:List Int) (d:List Int):∀r,dw neg n d=some r→aj Tryz.prog 150 0 [B neg,SL (cI .u32) n,SL (cI .u32) d] [] (AG Rat.D r) []:=
 ak (enc:=fun r=>AG Rat.D r) (aP:=fun r=>[]) 10 (.call [] [] (Ri n d) .no fun x0=>.br 20006 (.call [] [] (lW 1) .no fun x1=>.ps 1000003 [.b 10] (.ret (Rat.mk false [] x1))) (.op 20008 (.ln (cI .u32) x0.1) (.br 100000023 (.call [] [] (lW 1) .no fun x1=>.ps 1000003 [.b 10] (.ret (Rat.mk false [] x1))) (.ret (Rat.mk neg x0.1 x0.2.1))))) Tryz.func150 (by kernel_rfl) (by kernel_rfl) (by kernel_rfl)
def nY (a:Rat):Option Rat:=
 (dw a.Neg a.Num a.Den).bind fun x0=>
 some x0
theorem kL (a:Rat):∀r,nY a=some r→aj Tryz.prog 91 0 [AG Rat.D a] [] (AG Rat.D r) []:=
 ak (enc:=fun r=>AG Rat.D r) (aP:=fun r=>[]) 10 (.call [] [] (bP a.Neg a.Num a.Den) .no fun x0=>.ret x0) Tryz.func91 (by kernel_rfl) (by kernel_rfl) (by kernel_rfl)
def iK (n:Int):Option Rat:=
 (Kw n).bind fun x0=>
 (tH 1).bind fun x1=>
 (dw x0.Neg x0.Mag x1).bind fun x2=>
 some x2
theorem fQ (n:Int):∀r,iK n=some r→aj Tryz.prog 90 0 [I n] [] (AG Rat.D r) []:=
 ak (enc:=fun r=>AG Rat.D r) (aP:=fun r=>[]) 10 (.call [] [] (aaB n) .no fun x0=>.call [] [] (lW 1) .no fun x1=>.call [] [] (bP x0.Neg x0.Mag x1) .no fun x2=>.ret x2) Tryz.func90 (by kernel_rfl) (by kernel_rfl) (by kernel_rfl)
def zG (a:Rat):Option Du:=
 (nY a).bind fun x0=>
 some (Du.mk (Jd.mk x0))
theorem zA (a:Rat):∀r,zG a=some r→aj Tryz.prog 152 0 [AG Rat.D a] [] (AG Du.D r) []:=
 ak (enc:=fun r=>AG Du.D r) (aP:=fun r=>[]) 10 (.call [] [] (kL a) .no fun x0=>.ret (Du.mk (Jd.mk x0))) Tryz.func152 (by kernel_rfl) (by kernel_rfl) (by kernel_rfl)
def fM (h:Jd):Option Whole:=
 some (Whole.mk h.Rat.Neg h.Rat.Num)
theorem jS (h:Jd):∀r,fM h=some r→aj Tryz.prog 155 0 [AG Jd.D h] [] (AG Whole.D r) []:=
 ak (enc:=fun r=>AG Whole.D r) (aP:=fun r=>[]) 10 (.ret (Whole.mk h.Rat.Neg h.Rat.Num)) Tryz.func155 (by kernel_rfl) (by kernel_rfl) (by kernel_rfl)
def fG (h:Jd):Option Whole:=
 some (Whole.mk false h.Rat.Den)
theorem jR (h:Jd):∀r,fG h=some r→aj Tryz.prog 156 0 [AG Jd.D h] [] (AG Whole.D r) []:=
 ak (enc:=fun r=>AG Whole.D r) (aP:=fun r=>[]) 10 (.ret (Whole.mk false h.Rat.Den)) Tryz.func156 (by kernel_rfl) (by kernel_rfl) (by kernel_rfl)
def qx (a:Rat) (b:Rat):Option Rat:=
 (zG a).bind fun x0=>
 (zG b).bind fun x1=>
 (fM x0.halves).bind fun x2=>
 (fG x1.halves).bind fun x3=>
 (xZ x2 x3).bind fun x4=>
 (fM x1.halves).bind fun x5=>
 (fG x0.halves).bind fun x6=>
 (xZ x5 x6).bind fun x7=>
 (CU x4 x7).bind fun x8=>
 (nX x0.halves.Rat.Den x1.halves.Rat.Den).bind fun x9=>
 (dw x8.Neg x8.Mag x9).bind fun x10=>
 some x10
theorem vW (a:Rat) (b:Rat):∀r,qx a b=some r→aj Tryz.prog 93 0 [AG Rat.D a,AG Rat.D b] [] (AG Rat.D r) []:=
 ak (enc:=fun r=>AG Rat.D r) (aP:=fun r=>[]) 10 (.call [] [] (zA a) .no fun x0=>.call [] [] (zA b) .no fun x1=>.call [] [] (jS x0.halves) .no fun x2=>.call [] [] (jR x1.halves) .no fun x3=>.call [] [] (Ce x2 x3) .no fun x4=>.call [] [] (jS x1.halves) .no fun x5=>.call [] [] (jR x0.halves) .no fun x6=>.call [] [] (Ce x5 x6) .no fun x7=>.call [] [] (YL x4 x7) .no fun x8=>.call [] [] (qE x0.halves.Rat.Den x1.halves.Rat.Den) .no fun x9=>.call [] [] (bP x8.Neg x8.Mag x9) .no fun x10=>.ret x10) Tryz.func93 (by kernel_rfl) (by kernel_rfl) (by kernel_rfl)
def nU (a:Rat) (b:Rat):Option Rat:=
 (nX a.Num b.Num).bind fun x0=>
 (nX a.Den b.Den).bind fun x1=>
 (dw (!(a.Neg==b.Neg)) x0 x1).bind fun x2=>
 some x2
theorem qC (a:Rat) (b:Rat):∀r,nU a b=some r→aj Tryz.prog 94 0 [AG Rat.D a,AG Rat.D b] [] (AG Rat.D r) []:=
 ak (enc:=fun r=>AG Rat.D r) (aP:=fun r=>[]) 10 (.call [] [] (qE a.Num b.Num) .no fun x0=>.call [] [] (qE a.Den b.Den) .no fun x1=>.call [] [] (bP (!(a.Neg==b.Neg)) x0 x1) .no fun x2=>.ret x2) Tryz.func94 (by kernel_rfl) (by kernel_rfl) (by kernel_rfl)
def uP (a:Rat):Option Rat:=
 (dw (!a.Neg) a.Num a.Den).bind fun x0=>
 some x0
theorem BQ (a:Rat):∀r,uP a=some r→aj Tryz.prog 251 0 [AG Rat.D a] [] (AG Rat.D r) []:=
 ak (enc:=fun r=>AG Rat.D r) (aP:=fun r=>[]) 10 (.call [] [] (bP (!a.Neg) a.Num a.Den) .no fun x0=>.ret x0) Tryz.func251 (by kernel_rfl) (by kernel_rfl) (by kernel_rfl)
def Cj (a:Rat) (b:Rat):Option Rat:=
 (uP b).bind fun x0=>
 (qx a x0).bind fun x1=>
 some x1
theorem O4 (a:Rat) (b:Rat):∀r,Cj a b=some r→aj Tryz.prog 254 0 [AG Rat.D a,AG Rat.D b] [] (AG Rat.D r) []:=
 ak (enc:=fun r=>AG Rat.D r) (aP:=fun r=>[]) 10 (.call [] [] (BQ b) .no fun x0=>.call [] [] (vW a x0) .no fun x1=>.ret x1) Tryz.func254 (by kernel_rfl) (by kernel_rfl) (by kernel_rfl)
def IE (n:Whole) (d:Whole):Option (Rat×Int):=
 (kH d.Mag).bind fun x0=>
 bif x0==0 then
 some (Rat.mk false [] [],3)
 else
 (dw (!(n.Neg==d.Neg)) n.Mag d.Mag).bind fun x1=>
 some (x1,0)
theorem Xi (n:Whole) (d:Whole):∀r,IE n d=some r→aj Tryz.prog 291 0 [AG Whole.D n,AG Whole.D d] [] (.tup [AG Rat.D r.1,I r.2]) []:=
 ak (enc:=fun r=>.tup [AG Rat.D r.1,I r.2]) (aP:=fun r=>[]) 10 (.call [] [] (uV d.Mag) .no fun x0=>.br 100000009 (.ps 1000003 [.b 12] (.ret (Rat.mk false [] [],3))) (.call [] [] (bP (!(n.Neg==d.Neg)) n.Mag d.Mag) .no fun x1=>.ret (x1,0))) Tryz.func291 (by kernel_rfl) (by kernel_rfl) (by kernel_rfl)
def qL (a:Rat) (b:Rat):Option (Rat×Int):=
 (zG a).bind fun x0=>
 (zG b).bind fun x1=>
 (fM x0.halves).bind fun x2=>
 (fG x1.halves).bind fun x3=>
 (xZ x2 x3).bind fun x4=>
 (fG x0.halves).bind fun x5=>
 (fM x1.halves).bind fun x6=>
 (xZ x5 x6).bind fun x7=>
 (IE x4 x7).bind fun x8=>
 some (x8.1,x8.2)
theorem Bd (a:Rat) (b:Rat):∀r,qL a b=some r→aj Tryz.prog 250 0 [AG Rat.D a,AG Rat.D b] [] (.tup [AG Rat.D r.1,I r.2]) []:=
 ak (enc:=fun r=>.tup [AG Rat.D r.1,I r.2]) (aP:=fun r=>[]) 10 (.call [] [] (zA a) .no fun x0=>.call [] [] (zA b) .no fun x1=>.call [] [] (jS x0.halves) .no fun x2=>.call [] [] (jR x1.halves) .no fun x3=>.call [] [] (Ce x2 x3) .no fun x4=>.call [] [] (jR x0.halves) .no fun x5=>.call [] [] (jS x1.halves) .no fun x6=>.call [] [] (Ce x5 x6) .no fun x7=>.call [] [] (Xi x4 x7) .no fun x8=>.ret (x8.1,x8.2)) Tryz.func250 (by kernel_rfl) (by kernel_rfl) (by kernel_rfl)
def jA (tA:Rat) (a:Int):Option (Rat×Int):=
 (zG tA).bind fun x0=>
 bif decide (a<(-64)) then
 some (Rat.mk false [] [],4)
 else
 bif decide (a>64) then
 some (Rat.mk false [] [],4)
 else
 bif decide (a<0) then
 bif ((x0.halves.Rat.Num.length:Nat):Int)==0 then
 some (Rat.mk false [] [],3)
 else
 bif inK .i64 (0-a) then
 (lZ x0.halves.Rat.Num (mxI a (0-a))).bind fun x1=>
 bif inK .i64 (0-a) then
 (lZ x0.halves.Rat.Den (mxI a (0-a))).bind fun x2=>
 bif x0.halves.Rat.Neg then
 bif decide ((2:Int)≠0) then
 bif decide (a<0) then
 (dw ((Int.tmod a 2) != 0) x2.1 x1.1).bind fun x3=>
 some (x3,0)
 else
 (dw ((Int.tmod a 2) != 0) x1.1 x2.1).bind fun x3=>
 some (x3,0)
 else none
 else
 bif decide (a<0) then
 (dw false x2.1 x1.1).bind fun x3=>
 some (x3,0)
 else
 (dw false x1.1 x2.1).bind fun x3=>
 some (x3,0)
 else none
 else none
 else
 bif inK .i64 (0-a) then
 (lZ x0.halves.Rat.Num (mxI a (0-a))).bind fun x1=>
 bif inK .i64 (0-a) then
 (lZ x0.halves.Rat.Den (mxI a (0-a))).bind fun x2=>
 bif x0.halves.Rat.Neg then
 bif decide ((2:Int)≠0) then
 bif decide (a<0) then
 (dw ((Int.tmod a 2) != 0) x2.1 x1.1).bind fun x3=>
 some (x3,0)
 else
 (dw ((Int.tmod a 2) != 0) x1.1 x2.1).bind fun x3=>
 some (x3,0)
 else none
 else
 bif decide (a<0) then
 (dw false x2.1 x1.1).bind fun x3=>
 some (x3,0)
 else
 (dw false x1.1 x2.1).bind fun x3=>
 some (x3,0)
 else none
 else none
theorem BF (tA:Rat) (a:Int):∀r,jA tA a=some r→aj Tryz.prog 252 0 [AG Rat.D tA,I a] [] (.tup [AG Rat.D r.1,I r.2]) []:=
 ak (enc:=fun r=>.tup [AG Rat.D r.1,I r.2]) (aP:=fun r=>[]) 10 (.call [] [] (zA tA) .no fun x0=>.br 20006 (.ps 1000003 [.b 11] (.ret (Rat.mk false [] [],4))) (.br 100000014 (.ps 1000003 [.b 11] (.ret (Rat.mk false [] [],4))) (.br 40006 (.op 40014 (.ln (cI .u32) x0.halves.Rat.Num) (.br 100000022 (.ps 1000003 [.b 11] (.ret (Rat.mk false [] [],3))) (.call [] [] (vg x0.halves.Rat.Num (mxI a (0-a))) .no fun x1=>.call [] [] (vg x0.halves.Rat.Den (mxI a (0-a))) .no fun x2=>.br 80010 (.op 80012 .wr (.br 100000068 (.call [] [] (bP ((Int.tmod a 2) != 0) x2.1 x1.1) .no fun x3=>.ret (x3,0)) (.call [] [] (bP ((Int.tmod a 2) != 0) x1.1 x2.1) .no fun x3=>.ret (x3,0)))) (.br 100000068 (.call [] [] (bP false x2.1 x1.1) .no fun x3=>.ret (x3,0)) (.call [] [] (bP false x1.1 x2.1) .no fun x3=>.ret (x3,0)))))) (.call [] [] (vg x0.halves.Rat.Num (mxI a (0-a))) .no fun x1=>.call [] [] (vg x0.halves.Rat.Den (mxI a (0-a))) .no fun x2=>.br 80010 (.op 80012 .wr (.br 100000068 (.call [] [] (bP ((Int.tmod a 2) != 0) x2.1 x1.1) .no fun x3=>.ret (x3,0)) (.call [] [] (bP ((Int.tmod a 2) != 0) x1.1 x2.1) .no fun x3=>.ret (x3,0)))) (.br 100000068 (.call [] [] (bP false x2.1 x1.1) .no fun x3=>.ret (x3,0)) (.call [] [] (bP false x1.1 x2.1) .no fun x3=>.ret (x3,0))))))) Tryz.func252 (by kernel_rfl) (by kernel_rfl) (by kernel_rfl)
end Go.Ab.M
