/- The laws, joined. -/
import Derived.Test.YtigadacjaglfeaaQ15
