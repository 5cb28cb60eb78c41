import Derived.Test.YtpefcgiiigdcdaaGreatTD
namespace Go.Ab.M
open Go.Proofs
set_option linter.unusedVariables false
set_option maxRecDepth 100000
structure IV where
 Rat:Rat
 deriving DecidableEq,Inhabited
abbrev IV.D (x:IV):List D:=Rat.D x.Rat
structure Ea where
 halves:IV
 deriving DecidableEq,Inhabited
abbrev Ea.D (x:Ea):List D:=IV.D x.halves
def yB (a:List Int) (b:List Int):Option (List Int×List Int×Bool):=
 (lC b).bind fun x0=>
 bif x0==0 then
 some ([],[],false)
 else
 (pF a b).bind fun x1=>
 (uq a x1).bind fun x2=>
 (uq b x1).bind fun x3=>
 some (x2.1,x3.1,true)
theorem QX (a:List Int) (b:List Int):∀r,yB a b=some r→aj Tryz.prog 158 0 [SL (cI .u32) a,SL (cI .u32) b] [] (.tup [SL (cI .u32) r.1,SL (cI .u32) r.2.1,B r.2.2]) []:=
 ak (enc:=fun r=>.tup [SL (cI .u32) r.1,SL (cI .u32) r.2.1,B r.2.2]) (aP:=fun r=>[]) 10 (.call [] [] (uh b) .no fun x0=>.br 100000010 (.ps 1000003 [.n 4,.n 5] (.ret ([],[],false))) (.call [] [] (MN a b) .no fun x1=>.call [] [] (IJ a x1) .no fun x2=>.call [] [] (IJ b x1) .no fun x3=>.ret (x2.1,x3.1,true))) Tryz.func158 (by kernel_rfl) (by kernel_rfl) (by kernel_rfl)
def O0 (a:Int) (b:Int) (c:Int):Option (Int×Int):=
 (mV [a,b,c]).bind fun x0=>
 (wL x0).bind fun x1=>
 some (x1.2,x1.1)
theorem aa7 (a:Int) (b:Int) (c:Int):∀r,O0 a b c=some r→aj Tryz.prog 216 0 [NI .u32 a,NI .u32 b,NI .u32 c] [] (.tup [NI .u32 r.1,NI .u32 r.2]) []:=
 ak (enc:=fun r=>.tup [NI .u32 r.1,NI .u32 r.2]) (aP:=fun r=>[]) 10 (.call [] [] (BA [a,b,c]) (.yes fun _=>⟨rfl,trivial⟩) fun x0=>.call [] [] (FC x0) .no fun x1=>.ret (x1.2,x1.1)) Tryz.func216 (by kernel_rfl) (by kernel_rfl) (by kernel_rfl)
def Il (a:List Int) (b:List Int) (i:Nat) (out:List Int):St:=⟨43,0,[(0,SL (cI .u32) a),(1,SL (cI .u32) b),(5,I (mxI ((a.length:Nat):Int) ((b.length:Nat):Int))),(6,.msl 10 0 none (some (((mxI ((a.length:Nat):Int) ((b.length:Nat):Int))+1).toNat))),(16,I (mxI ((a.length:Nat):Int) ((b.length:Nat):Int))),(17,I ((i:Nat):Int))],[(10,ROW 1 (cI .u32) out 0)]⟩
def G5 (a:List Int) (b:List Int) (out:List Int):St:=⟨43,0,[(6,.msl 10 0 none (some (((mxI ((a.length:Nat):Int) ((b.length:Nat):Int))+1).toNat)))],[(10,ROW 1 (cI .u32) out 0)]⟩
def uP (a:List Int) (b:List Int) (i:Nat) (out:List Int):Option ((Nat×List Int)⊕(List Int)):=
 bif decide (((i:Nat):Int)<(mxI ((a.length:Nat):Int) ((b.length:Nat):Int))) then
 (ND a ((i:Nat):Int)).bind fun x0=>
 (ND b ((i:Nat):Int)).bind fun x1=>
 bif decide (0≤mxI ((a.length:Nat):Int) ((b.length:Nat):Int)) then
 bif decide ((mxI ((a.length:Nat):Int) ((b.length:Nat):Int)).toNat<out.length) then
 bif decide ((mxI ((a.length:Nat):Int) ((b.length:Nat):Int)).toNat<out.length) then
 (O0 x0 x1 (nth out ((mxI ((a.length:Nat):Int) ((b.length:Nat):Int)).toNat))).bind fun x2=>
 bif decide (i<out.length) then
 bif decide (i<out.length) then
 bif decide (0≤mxI ((a.length:Nat):Int) ((b.length:Nat):Int)) then
 bif decide ((mxI ((a.length:Nat):Int) ((b.length:Nat):Int)).toNat<(out.set i x2.1).length) then
 bif decide ((mxI ((a.length:Nat):Int) ((b.length:Nat):Int)).toNat<(out.set i x2.1).length) then
 bif inK .i64 (((i:Nat):Int)+1) then
 some (.inl (i+1,(out.set i x2.1).set ((mxI ((a.length:Nat):Int) ((b.length:Nat):Int)).toNat) x2.2))
 else none
 else none
 else none
 else none
 else none
 else none
 else none
 else none
 else none
 else
 some (.inr out)
theorem YO (a:List Int) (b:List Int):∀σ:Nat×List Int,aJ Tryz.prog (nav [1,1,1,0,1,0,0] (ah Tryz.f157)) (fun (σ:Nat×List Int)=>Il a b σ.1 σ.2) (fun (_:List Int)=>(.exit 0)) (fun (y:List Int)=>G5 a b y) σ (uP a b σ.1 σ.2)
 | (i,out)=>aB 1010 (.br 100000018 (.call [] [] (QE a ((i:Nat):Int)) .no fun x0=>.call [] [] (QE b ((i:Nat):Int)) .no fun x1=>.op 60024 (.el (cI .u32) out .dn) (.op 60026 (.ld (cI .u32) out) (.call [] [] (aa7 x0 x1 (nth out ((mxI ((a.length:Nat):Int) ((b.length:Nat):Int)).toNat))) .no fun x2=>.op 60036 (.el (cI .u32) out (.up i)) (.op 60038 (.st (cI .u32) out x2.1) (.op 60040 (.el (cI .u32) (out.set i x2.1) .dn) (.op 60042 (.st (cI .u32) (out.set i x2.1) x2.2) (.ps 1000003 [.k [0,1,5,6,16,17] [10]] (.ret (.inl (i+1,(out.set i x2.1).set ((mxI ((a.length:Nat):Int) ((b.length:Nat):Int)).toNat) x2.2)))))))))) (.ps 1000003 [.k [6] [10]] (.ret (.inr out)))) (by kernel_rfl)
def LG (a:List Int) (b:List Int) (i:Nat) (out:List Int):Option (List Int):=aK (fun (σ:Nat×List Int)=>uP a b σ.1 σ.2) FU (i,out)
theorem YF (a:List Int) (b:List Int) (i:Nat) (out:List Int):∀y:List Int,LG a b i out=some y→Runs Tryz.prog (.loop (nav [1,1,1,0,1,0,0] (ah Tryz.f157))) (Il a b i out) ((.exit 0)) ((fun (y:List Int)=>G5 a b y) y):=
 aU (head:=fun (σ:Nat×List Int)=>Il a b σ.1 σ.2) (eo:=fun (_:List Int)=>(.exit 0)) (so:=fun (y:List Int)=>G5 a b y) (YO a b) (fun _ h=>by cases h) FU (i,out)
def Po (a:List Int) (b:List Int):Option (List Int):=
 bif inK .i64 ((mxI ((a.length:Nat):Int) ((b.length:Nat):Int))+1) then
 bif decide (0≤(mxI ((a.length:Nat):Int) ((b.length:Nat):Int))+1) then
 bif decide (((mxI ((a.length:Nat):Int) ((b.length:Nat):Int))+1).toNat≤2147483648) then
 (LG a b 0 (List.replicate (((mxI ((a.length:Nat):Int) ((b.length:Nat):Int))+1).toNat) 0)).bind fun x0=>
 (iF x0).bind fun x1=>
 some x1
 else none
 else none
 else none
theorem V9 (a:List Int) (b:List Int):∀r,Po a b=some r→aj Tryz.prog 157 0 [SL (cI .u32) a,SL (cI .u32) b] [] (SL (cI .u32) r) []:=
 ak (enc:=fun r=>SL (cI .u32) r) (aP:=fun r=>[]) 10 (.op 10002 (.ln (cI .u32) a) (.op 10006 (.ln (cI .u32) b) (.op 20004 (.mk (cI .u32) 0 .dn) (.ps 1000001 [.k [0,1,5,6,16,17] [10]] (.lp1 0 (YF a b 0 (List.replicate (((mxI ((a.length:Nat):Int) ((b.length:Nat):Int))+1).toNat) 0)) fun x0=>.call [] [] (iC x0) .no fun x1=>.ret x1))))) Tryz.func157 (by kernel_rfl) (by kernel_rfl) (by kernel_rfl)
def jC (neg:Bool) (mag:List Int):Option Whole:=
 (iF mag).bind fun x0=>
 bif neg then
 some (Whole.mk (decide (((x0.length:Nat):Int)>0)) x0)
 else
 some (Whole.mk false x0)
theorem kT (neg:Bool) (mag:List Int):∀r,jC neg mag=some r→aj Tryz.prog 156 0 [B neg,SL (cI .u32) mag] [] (AG Whole.D r) []:=
 ak (enc:=fun r=>AG Whole.D r) (aP:=fun r=>[]) 10 (.call [] [] (iC mag) .no fun x0=>.br 20004 (.op 20006 (.ln (cI .u32) x0) (.ret (Whole.mk (decide (((x0.length:Nat):Int)>0)) x0))) (.ret (Whole.mk false x0))) Tryz.func156 (by kernel_rfl) (by kernel_rfl) (by kernel_rfl)
def Ky (n:Int):Option Whole:=
 bif decide (n<0) then
 bif inK .i64 (n+1) then
 bif inK .i64 (0-(n+1)) then
 (tq (IntKind.wrap .u64 (0-(n+1)))).bind fun x0=>
 (tq 1).bind fun x1=>
 (Po x0 x1).bind fun x2=>
 (jC true x2).bind fun x3=>
 some x3
 else none
 else none
 else
 (tq (IntKind.wrap .u64 n)).bind fun x0=>
 (jC false x0).bind fun x1=>
 some x1
theorem aaf (n:Int):∀r,Ky n=some r→aj Tryz.prog 106 0 [I n] [] (AG Whole.D r) []:=
 ak (enc:=fun r=>AG Whole.D r) (aP:=fun r=>[]) 10 (.br 100000004 (.op 20006 .wr (.call [] [] (mF (IntKind.wrap .u64 (0-(n+1)))) .no fun x0=>.call [] [] (mF 1) .no fun x1=>.call [] [] (V9 x0 x1) .no fun x2=>.call [] [] (kT true x2) .no fun x3=>.ret x3)) (.op 30002 .wr (.call [] [] (mF (IntKind.wrap .u64 n)) .no fun x0=>.call [] [] (kT false x0) .no fun x1=>.ret x1))) Tryz.func106 (by kernel_rfl) (by kernel_rfl) (by kernel_rfl)
def KN (a:Whole) (b:Whole):Option Whole:=
 (Po a.Mag b.Mag).bind fun x0=>
 (jC a.Neg x0).bind fun x1=>
 some x1
theorem VL (a:Whole) (b:Whole):∀r,KN a b=some r→aj Tryz.prog 194 0 [AG Whole.D a,AG Whole.D b] [] (AG Whole.D r) []:=
 ak (enc:=fun r=>AG Whole.D r) (aP:=fun r=>[]) 10 (.call [] [] (V9 a.Mag b.Mag) .no fun x0=>.call [] [] (kT a.Neg x0) .no fun x1=>.ret x1) Tryz.func194 (by kernel_rfl) (by kernel_rfl) (by kernel_rfl)
def BQ (a:Whole) (b:Whole):Option Whole:=
 (LP a.Mag b.Mag).bind fun x0=>
 bif x0.2 then
 (jC a.Neg x0.1).bind fun x1=>
 some x1
 else
 (LP b.Mag a.Mag).bind fun x1=>
 (jC b.Neg x1.1).bind fun x2=>
 some x2
theorem Uc (a:Whole) (b:Whole):∀r,BQ a b=some r→aj Tryz.prog 193 0 [AG Whole.D a,AG Whole.D b] [] (AG Whole.D r) []:=
 ak (enc:=fun r=>AG Whole.D r) (aP:=fun r=>[]) 10 (.call [] [] (Nz a.Mag b.Mag) .no fun x0=>.br 100000017 (.call [] [] (kT a.Neg x0.1) .no fun x1=>.ret x1) (.call [] [] (Nz b.Mag a.Mag) .no fun x1=>.call [] [] (kT b.Neg x1.1) .no fun x2=>.ret x2)) Tryz.func193 (by kernel_rfl) (by kernel_rfl) (by kernel_rfl)
def Cj (a:Whole) (b:Whole):Option Whole:=
 bif a.Neg==b.Neg then
 (KN a b).bind fun x0=>
 some x0
 else
 (BQ a b).bind fun x0=>
 some x0
theorem Zq (a:Whole) (b:Whole):∀r,Cj a b=some r→aj Tryz.prog 140 0 [AG Whole.D a,AG Whole.D b] [] (AG Whole.D r) []:=
 ak (enc:=fun r=>AG Whole.D r) (aP:=fun r=>[]) 10 (.br 100000011 (.call [] [] (VL a b) .no fun x0=>.ret x0) (.call [] [] (Uc a b) .no fun x0=>.ret x0)) Tryz.func140 (by kernel_rfl) (by kernel_rfl) (by kernel_rfl)
def yt (a:Whole) (b:Whole):Option Whole:=
 (oD a.Mag b.Mag).bind fun x0=>
 (jC (!(a.Neg==b.Neg)) x0).bind fun x1=>
 some x1
theorem Bj (a:Whole) (b:Whole):∀r,yt a b=some r→aj Tryz.prog 141 0 [AG Whole.D a,AG Whole.D b] [] (AG Whole.D r) []:=
 ak (enc:=fun r=>AG Whole.D r) (aP:=fun r=>[]) 10 (.call [] [] (qZ a.Mag b.Mag) .no fun x0=>.call [] [] (kT (!(a.Neg==b.Neg)) x0) .no fun x1=>.ret x1) Tryz.func141 (by kernel_rfl) (by kernel_rfl) (by kernel_rfl)
def dh (neg:Bool) (n:List Int) (d:List Int):Option Rat:=
 (yB n d).bind fun x0=>
 bif !x0.2.2 then
 (tq 1).bind fun x1=>
 some (Rat.mk false [] x1)
 else
 bif ((x0.1.length:Nat):Int)==0 then
 (tq 1).bind fun x1=>
 some (Rat.mk false [] x1)
 else
 some (Rat.mk neg x0.1 x0.2.1)
theorem bT (neg:Bool) (n:List Int) (d:List Int):∀r,dh neg n d=some r→aj Tryz.prog 107 0 [B neg,SL (cI .u32) n,SL (cI .u32) d] [] (AG Rat.D r) []:=
 ak (enc:=fun r=>AG Rat.D r) (aP:=fun r=>[]) 10 (.call [] [] (QX n d) .no fun x0=>.br 20006 (.call [] [] (mF 1) .no fun x1=>.ps 1000003 [.b 10] (.ret (Rat.mk false [] x1))) (.op 20008 (.ln (cI .u32) x0.1) (.br 100000023 (.call [] [] (mF 1) .no fun x1=>.ps 1000003 [.b 10] (.ret (Rat.mk false [] x1))) (.ret (Rat.mk neg x0.1 x0.2.1))))) Tryz.func107 (by kernel_rfl) (by kernel_rfl) (by kernel_rfl)
def qL (a:Rat):Option Rat:=
 (dh a.Neg a.Num a.Den).bind fun x0=>
 some x0
theorem nV (a:Rat):∀r,qL a=some r→aj Tryz.prog 79 0 [AG Rat.D a] [] (AG Rat.D r) []:=
 ak (enc:=fun r=>AG Rat.D r) (aP:=fun r=>[]) 10 (.call [] [] (bT a.Neg a.Num a.Den) .no fun x0=>.ret x0) Tryz.func79 (by kernel_rfl) (by kernel_rfl) (by kernel_rfl)
def kC (n:Int):Option Rat:=
 (Ky n).bind fun x0=>
 (tq 1).bind fun x1=>
 (dh x0.Neg x0.Mag x1).bind fun x2=>
 some x2
theorem jJ (n:Int):∀r,kC n=some r→aj Tryz.prog 48 0 [I n] [] (AG Rat.D r) []:=
 ak (enc:=fun r=>AG Rat.D r) (aP:=fun r=>[]) 10 (.call [] [] (aaf n) .no fun x0=>.call [] [] (mF 1) .no fun x1=>.call [] [] (bT x0.Neg x0.Mag x1) .no fun x2=>.ret x2) Tryz.func48 (by kernel_rfl) (by kernel_rfl) (by kernel_rfl)
def yS (a:Rat):Option Ea:=
 (qL a).bind fun x0=>
 some (Ea.mk (IV.mk x0))
theorem zG (a:Rat):∀r,yS a=some r→aj Tryz.prog 139 0 [AG Rat.D a] [] (AG Ea.D r) []:=
 ak (enc:=fun r=>AG Ea.D r) (aP:=fun r=>[]) 10 (.call [] [] (nV a) .no fun x0=>.ret (Ea.mk (IV.mk x0))) Tryz.func139 (by kernel_rfl) (by kernel_rfl) (by kernel_rfl)
def gK (h:IV):Option Whole:=
 some (Whole.mk h.Rat.Neg h.Rat.Num)
theorem kK (h:IV):∀r,gK h=some r→aj Tryz.prog 142 0 [AG IV.D h] [] (AG Whole.D r) []:=
 ak (enc:=fun r=>AG Whole.D r) (aP:=fun r=>[]) 10 (.ret (Whole.mk h.Rat.Neg h.Rat.Num)) Tryz.func142 (by kernel_rfl) (by kernel_rfl) (by kernel_rfl)
def gJ (h:IV):Option Whole:=
 some (Whole.mk false h.Rat.Den)
theorem kH (h:IV):∀r,gJ h=some r→aj Tryz.prog 143 0 [AG IV.D h] [] (AG Whole.D r) []:=
 ak (enc:=fun r=>AG Whole.D r) (aP:=fun r=>[]) 10 (.ret (Whole.mk false h.Rat.Den)) Tryz.func143 (by kernel_rfl) (by kernel_rfl) (by kernel_rfl)
def uj (a:Rat) (b:Rat):Option Rat:=
 (yS a).bind fun x0=>
 (yS b).bind fun x1=>
 (gK x0.halves).bind fun x2=>
 (gJ x1.halves).bind fun x3=>
 (yt x2 x3).bind fun x4=>
 (gK x1.halves).bind fun x5=>
 (gJ x0.halves).bind fun x6=>
 (yt x5 x6).bind fun x7=>
 (Cj x4 x7).bind fun x8=>
 (oD x0.halves.Rat.Den x1.halves.Rat.Den).bind fun x9=>
 (dh x8.Neg x8.Mag x9).bind fun x10=>
 some x10
theorem BM (a:Rat) (b:Rat):∀r,uj a b=some r→aj Tryz.prog 81 0 [AG Rat.D a,AG Rat.D b] [] (AG Rat.D r) []:=
 ak (enc:=fun r=>AG Rat.D r) (aP:=fun r=>[]) 10 (.call [] [] (zG a) .no fun x0=>.call [] [] (zG b) .no fun x1=>.call [] [] (kK x0.halves) .no fun x2=>.call [] [] (kH x1.halves) .no fun x3=>.call [] [] (Bj x2 x3) .no fun x4=>.call [] [] (kK x1.halves) .no fun x5=>.call [] [] (kH x0.halves) .no fun x6=>.call [] [] (Bj x5 x6) .no fun x7=>.call [] [] (Zq x4 x7) .no fun x8=>.call [] [] (qZ x0.halves.Rat.Den x1.halves.Rat.Den) .no fun x9=>.call [] [] (bT x8.Neg x8.Mag x9) .no fun x10=>.ret x10) Tryz.func81 (by kernel_rfl) (by kernel_rfl) (by kernel_rfl)
def qF (a:Rat) (b:Rat):Option Rat:=
 (oD a.Num b.Num).bind fun x0=>
 (oD a.Den b.Den).bind fun x1=>
 (dh (!(a.Neg==b.Neg)) x0 x1).bind fun x2=>
 some x2
theorem vM (a:Rat) (b:Rat):∀r,qF a b=some r→aj Tryz.prog 82 0 [AG Rat.D a,AG Rat.D b] [] (AG Rat.D r) []:=
 ak (enc:=fun r=>AG Rat.D r) (aP:=fun r=>[]) 10 (.call [] [] (qZ a.Num b.Num) .no fun x0=>.call [] [] (qZ a.Den b.Den) .no fun x1=>.call [] [] (bT (!(a.Neg==b.Neg)) x0 x1) .no fun x2=>.ret x2) Tryz.func82 (by kernel_rfl) (by kernel_rfl) (by kernel_rfl)
def uH (a:Rat):Option Rat:=
 (dh (!a.Neg) a.Num a.Den).bind fun x0=>
 some x0
theorem Bf (a:Rat):∀r,uH a=some r→aj Tryz.prog 191 0 [AG Rat.D a] [] (AG Rat.D r) []:=
 ak (enc:=fun r=>AG Rat.D r) (aP:=fun r=>[]) 10 (.call [] [] (bT (!a.Neg) a.Num a.Den) .no fun x0=>.ret x0) Tryz.func191 (by kernel_rfl) (by kernel_rfl) (by kernel_rfl)
def BU (a:Rat) (b:Rat):Option Rat:=
 (uH b).bind fun x0=>
 (uj a x0).bind fun x1=>
 some x1
theorem Qe (a:Rat) (b:Rat):∀r,BU a b=some r→aj Tryz.prog 188 0 [AG Rat.D a,AG Rat.D b] [] (AG Rat.D r) []:=
 ak (enc:=fun r=>AG Rat.D r) (aP:=fun r=>[]) 10 (.call [] [] (Bf b) .no fun x0=>.call [] [] (BM a x0) .no fun x1=>.ret x1) Tryz.func188 (by kernel_rfl) (by kernel_rfl) (by kernel_rfl)
def Ib (n:Whole) (d:Whole):Option (Rat×Int):=
 (lC d.Mag).bind fun x0=>
 bif x0==0 then
 some (Rat.mk false [] [],3)
 else
 (dh (!(n.Neg==d.Neg)) n.Mag d.Mag).bind fun x1=>
 some (x1,0)
theorem XF (n:Whole) (d:Whole):∀r,Ib n d=some r→aj Tryz.prog 240 0 [AG Whole.D n,AG Whole.D d] [] (.tup [AG Rat.D r.1,I r.2]) []:=
 ak (enc:=fun r=>.tup [AG Rat.D r.1,I r.2]) (aP:=fun r=>[]) 10 (.call [] [] (uh d.Mag) .no fun x0=>.br 100000009 (.ps 1000003 [.b 12] (.ret (Rat.mk false [] [],3))) (.call [] [] (bT (!(n.Neg==d.Neg)) n.Mag d.Mag) .no fun x1=>.ret (x1,0))) Tryz.func240 (by kernel_rfl) (by kernel_rfl) (by kernel_rfl)
def qU (a:Rat) (b:Rat):Option (Rat×Int):=
 (yS a).bind fun x0=>
 (yS b).bind fun x1=>
 (gK x0.halves).bind fun x2=>
 (gJ x1.halves).bind fun x3=>
 (yt x2 x3).bind fun x4=>
 (gJ x0.halves).bind fun x5=>
 (gK x1.halves).bind fun x6=>
 (yt x5 x6).bind fun x7=>
 (Ib x4 x7).bind fun x8=>
 some (x8.1,x8.2)
theorem BG (a:Rat) (b:Rat):∀r,qU a b=some r→aj Tryz.prog 190 0 [AG Rat.D a,AG Rat.D b] [] (.tup [AG Rat.D r.1,I r.2]) []:=
 ak (enc:=fun r=>.tup [AG Rat.D r.1,I r.2]) (aP:=fun r=>[]) 10 (.call [] [] (zG a) .no fun x0=>.call [] [] (zG b) .no fun x1=>.call [] [] (kK x0.halves) .no fun x2=>.call [] [] (kH x1.halves) .no fun x3=>.call [] [] (Bj x2 x3) .no fun x4=>.call [] [] (kH x0.halves) .no fun x5=>.call [] [] (kK x1.halves) .no fun x6=>.call [] [] (Bj x5 x6) .no fun x7=>.call [] [] (XF x4 x7) .no fun x8=>.ret (x8.1,x8.2)) Tryz.func190 (by kernel_rfl) (by kernel_rfl) (by kernel_rfl)
def jP (tA:Rat) (a:Int):Option (Rat×Int):=
 (yS tA).bind fun x0=>
 bif decide (a<(-64)) then
 some (Rat.mk false [] [],4)
 else
 bif decide (a>64) then
 some (Rat.mk false [] [],4)
 else
 bif decide (a<0) then
 bif ((x0.halves.Rat.Num.length:Nat):Int)==0 then
 some (Rat.mk false [] [],3)
 else
 bif inK .i64 (0-a) then
 (mW x0.halves.Rat.Num (mxI a (0-a))).bind fun x1=>
 bif inK .i64 (0-a) then
 (mW x0.halves.Rat.Den (mxI a (0-a))).bind fun x2=>
 bif x0.halves.Rat.Neg then
 bif decide ((2:Int)≠0) then
 bif decide (a<0) then
 (dh ((Int.tmod a 2) != 0) x2.1 x1.1).bind fun x3=>
 some (x3,0)
 else
 (dh ((Int.tmod a 2) != 0) x1.1 x2.1).bind fun x3=>
 some (x3,0)
 else none
 else
 bif decide (a<0) then
 (dh false x2.1 x1.1).bind fun x3=>
 some (x3,0)
 else
 (dh false x1.1 x2.1).bind fun x3=>
 some (x3,0)
 else none
 else none
 else
 bif inK .i64 (0-a) then
 (mW x0.halves.Rat.Num (mxI a (0-a))).bind fun x1=>
 bif inK .i64 (0-a) then
 (mW x0.halves.Rat.Den (mxI a (0-a))).bind fun x2=>
 bif x0.halves.Rat.Neg then
 bif decide ((2:Int)≠0) then
 bif decide (a<0) then
 (dh ((Int.tmod a 2) != 0) x2.1 x1.1).bind fun x3=>
 some (x3,0)
 else
 (dh ((Int.tmod a 2) != 0) x1.1 x2.1).bind fun x3=>
 some (x3,0)
 else none
 else
 bif decide (a<0) then
 (dh false x2.1 x1.1).bind fun x3=>
 some (x3,0)
 else
 (dh false x1.1 x2.1).bind fun x3=>
 some (x3,0)
 else none
 else none
theorem BO (tA:Rat) (a:Int):∀r,jP tA a=some r→aj Tryz.prog 192 0 [AG Rat.D tA,I a] [] (.tup [AG Rat.D r.1,I r.2]) []:=
 ak (enc:=fun r=>.tup [AG Rat.D r.1,I r.2]) (aP:=fun r=>[]) 10 (.call [] [] (zG tA) .no fun x0=>.br 20006 (.ps 1000003 [.b 11] (.ret (Rat.mk false [] [],4))) (.br 100000014 (.ps 1000003 [.b 11] (.ret (Rat.mk false [] [],4))) (.br 40006 (.op 40014 (.ln (cI .u32) x0.halves.Rat.Num) (.br 100000022 (.ps 1000003 [.b 11] (.ret (Rat.mk false [] [],3))) (.call [] [] (vV x0.halves.Rat.Num (mxI a (0-a))) .no fun x1=>.call [] [] (vV x0.halves.Rat.Den (mxI a (0-a))) .no fun x2=>.br 80010 (.op 80012 .wr (.br 100000068 (.call [] [] (bT ((Int.tmod a 2) != 0) x2.1 x1.1) .no fun x3=>.ret (x3,0)) (.call [] [] (bT ((Int.tmod a 2) != 0) x1.1 x2.1) .no fun x3=>.ret (x3,0)))) (.br 100000068 (.call [] [] (bT false x2.1 x1.1) .no fun x3=>.ret (x3,0)) (.call [] [] (bT false x1.1 x2.1) .no fun x3=>.ret (x3,0)))))) (.call [] [] (vV x0.halves.Rat.Num (mxI a (0-a))) .no fun x1=>.call [] [] (vV x0.halves.Rat.Den (mxI a (0-a))) .no fun x2=>.br 80010 (.op 80012 .wr (.br 100000068 (.call [] [] (bT ((Int.tmod a 2) != 0) x2.1 x1.1) .no fun x3=>.ret (x3,0)) (.call [] [] (bT ((Int.tmod a 2) != 0) x1.1 x2.1) .no fun x3=>.ret (x3,0)))) (.br 100000068 (.call [] [] (bT false x2.1 x1.1) .no fun x3=>.ret (x3,0)) (.call [] [] (bT false x1.1 x2.1) .no fun x3=>.ret (x3,0))))))) Tryz.func192 (by kernel_rfl) (by kernel_rfl) (by kernel_rfl)
end Go.Ab.M
